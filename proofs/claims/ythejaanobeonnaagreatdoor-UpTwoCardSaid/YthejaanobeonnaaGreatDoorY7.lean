/- up.New. The document's Make; the manifests of the statements. Sweeps: the views of the statements, orphans. An upload's log where it is new: what it answers. What the statements make: manifests with blobs, a log and a client. Small functions of the statements: Number, SameBytes. The statements' own: laid, ends, the examples. The statements' manifests: two objects. A snapshot, and an entry that brings one, while the power is there. A log that may bring a snapshot; an upload to its end. Two uploads: the manifests, what stays of the first, the first anew. Ways that meet again, told by slots. Closed facts on the program's head, that each row of this seat asks for. -/
import Derived.Test.YthejaanobeonnaaGreatDoorY6
import Derived.Test.YthejaanobeonnaaGreatDoorY4
import Derived.Test.YthejaanobeonnaaGreatDoorY2
import Derived.Test.YthejaanobeonnaaGreatDoorY5
import Derived.Test.YthejaanobeonnaaGreatDoorRows
import Derived.JoinedOf
import Derived.ProofKit
set_option linter.all false
namespace Go.Proofs.YthejaanobeonnaaGreatDoor
section
open Go.RowKit
attribute [local irreducible] zAh eV
variable {g w : World} {L M : List HP} {ad : Nat → Addr} {p u d l c ev n q cc : Nat} {dk : Dk} {V : Vw}
theorem zsPl : (Tryz.prog.info? 109).map (fun i => (i.zero, i.size)) = some (some (.agg #[.string ByteArray.empty, .int .i64 0, .int .u32 0, .int .i64 0, .int .i64 0]), 5) := by kernel_rfl
theorem fill_plan (nm : ByteArray) (a b e f : Int) : Instr.fill (fun i => some (i * 5, 5)) ((Array.range (1 * 5)).map ((Value.agg #[.string ByteArray.empty, .int .i64 0, .int .u32 0, .int .i64 0, .int .i64 0]).cells[· % (Value.agg #[.string ByteArray.empty, .int .i64 0, .int .u32 0, .int .i64 0, .int .i64 0]).cells.size]!)) [(0, .agg (planC nm a b e f).toArray)] = some (planC nm a b e f).toArray := by kernel_rfl
def upTo (d l c E : Nat) (m : Mf) (s1 s2 : SA) (x : Nat × List (List UInt8 × SA) × SA × SA) : UpT := ⟨d, l, c, m, s1, s2, E, x.2.1, x.2.2.1, x.2.2.2⟩
def NewR (ad : Nat → Addr) (g : World) (each : Int) (m : Mf) (bs : List (List UInt8)) (V : Vw) (d l c : Nat) (is : Bool) (z : S4) (R : List HP) (v : Value) (w' : World) : Prop :=
  ((upF each m bs).1 ≠ 0 ∧ ∃ eb, v = .tuple #[.pointer none, flV ad (upF each m bs) eb] ∧ Mem g w' (flC ad (upF each m bs) eb :: R)) ∨
  ((upF each m bs).1 = 0 ∧ 2 ≤ V.state m.id ∧ v = .tuple #[.pointer none, zAh ad 113] ∧ Mem g w' R) ∨
  ((upF each m bs).1 = 0 ∧ V.state m.id < 2 ∧ ∃ u s1 s2 xs s3 s4, v = .tuple #[.pointer (some ⟨u, 0, none⟩), .nilIface] ∧ xs.map (·.1) = bs ∧ Mem g w' (UpC u ⟨d, l, c, m, s1, s2, each.toNat, xs, s3, s4⟩ (if is = true ∧ z.1 = m.id ∧ V.state m.id = 1 ∧ fitsB each.toNat bs z = true then z else (m.id, 0, 0, 0)) false :: R))
theorem Mem.noPlans {b E : Nat} {m : Mf} {s1 s2 : SA} {L : List HP} (hs : Mem g w (cells b (upL (upZ d l c E m s1 s2) (m.id, 0, 0, 0) false) 106 :: zDh 2 (.slice s1.1 m.eps.length s1.2) (m.eps.map prL) :: zDh 3 (.slice s2.1 m.obs.length s2.2) (m.obs.map obL) :: own (.slice none 0 0) [] :: zDh 5 (.slice none 0 0) [] :: Go.Proofs.YthejaanobeonnaaGreatDoor.stars [] :: L)) : Mem g w (ucO b (upTo d l c E m s1 s2 (0, [], (none, 0), (none, 0))) (m.id, 0, 0, 0) false L) := by
  have h0 : zCb E m.obs [] = [] := by simp [zCb]
  show Mem g w (upP b (upTo d l c E m s1 s2 (0, [], (none, 0), (none, 0))) (m.id, 0, 0, 0) false :: zDh 2 (.slice s1.1 m.eps.length s1.2) (m.eps.map prL) :: zDh 3 (.slice s2.1 m.obs.length s2.2) (m.obs.map obL) :: own (.slice none 0 0) [] :: zDh 5 (.slice none 0 0) (zCb E m.obs []) :: Go.Proofs.YthejaanobeonnaaGreatDoor.stars [] :: L)
  rw [h0]; exact hs
theorem zip_snoc {α β : Type} {o : α} {z : β} : ∀ {os : List α} {xs : List β}, os[xs.length]? = some o → os.zip (xs ++ [z]) = os.zip xs ++ [(o, z)]
  | [], _, h => by simp at h
  | a :: os, [], h => by simp at h; subst h; simp
  | a :: os, x :: xs, h => by
    have h : os[xs.length]? = some o := by simpa using h
    simp [zip_snoc h]
theorem plans_more {E : Nat} {os : List Ob} {xs : List (List UInt8 × SA)} {o : Ob} {z : List UInt8 × SA} (h : os[xs.length]? = some o) : zCb E os xs ++ [zEj E o z.1] = zCb E os (xs ++ [z]) := by
  unfold zCb
  rw [zip_snoc h, List.map_append]
  rfl
theorem Mem.moreUp {b E k n3 n4 : Nat} {m : Mf} {s1 s2 b3 b4 c3 c4 : SA} {xs : List (List UInt8 × SA)} {z : List UInt8 × SA} {R : List HP} {R3 : List Value} {R5 : List (List Value)} (h3 : n3 = (xs ++ [z]).length) (h4 : n4 = (xs ++ [z]).length) (h5 : R5 = zCb E m.obs (xs ++ [z])) (h6 : R3 = (xs ++ [z]).map bV)
    (hs : Mem g w (Go.Proofs.YthejaanobeonnaaGreatDoor.stars ((xs ++ [z]).map bC) :: cells b (((upL (upTo d l c E m s1 s2 (k, xs, c3, c4)) (m.id, 0, 0, 0) false).set 10 (.slice b4.1 n4 b4.2)).set 9 (.slice b3.1 n3 b3.2)) 106 :: zDh 2 (.slice s1.1 m.eps.length s1.2) (m.eps.map prL) :: zDh 3 (.slice s2.1 m.obs.length s2.2) (m.obs.map obL) :: own (.slice b3.1 n3 b3.2) R3 :: zDh 5 (.slice b4.1 n4 b4.2) R5 :: R)) : Mem g w (ucO b (upTo d l c E m s1 s2 (k + 1, xs ++ [z], b3, b4)) (m.id, 0, 0, 0) false R) := by
  subst h3 h4 h5 h6; exact hs.arr [1, 2, 3, 4, 5, 0] 6 (by decide)
abbrev newH (A B C : HP) (t : UpT) (L : List HP) : List HP := A :: B :: zDh 2 (.slice t.s1.1 t.m.eps.length t.s1.2) (t.m.eps.map prL) :: zDh 3 (.slice t.s2.1 t.m.obs.length t.s2.2) (t.m.obs.map obL) :: stars (t.xs.map bC) :: C :: L
set_option maxRecDepth 100000 in
set_option maxHeartbeats 4000000 in
theorem upNew_sl (hE : ErrU ad g) (hs : Mem g w (zD2 l d ev V q cc n :: zB9 d dk :: L)) {each : Int} (hea : zDm each) {m : Mf} {e o : SA} (hm : MfR g L m e o) (hob : m.obs.length ≤ 1000000) (heps : m.eps.length ≤ 1000000) {ab : Option Addr} {cb : Nat} {bl : List (List UInt8 × SA)} (hb : Rd g L (.slice ab bl.length cb) (bl.map bV)) (hbr : ∀ x ∈ bl, Rd g L (bV x) (zAj x.1)) (hbl : ∀ x ∈ bl, x.1.length ≤ 1048576) {is : Bool} {z : S4} (hj : jst (dk.pread nUp) = (0, is, z.1, z.2.1, z.2.2.1, z.2.2.2)) (hz : 0 ≤ z.2.1) :
    Calls Tryz.prog 15 #[.pointer (some ⟨d, 0, none⟩), .pointer (some ⟨l, 0, none⟩), .pointer (some ⟨c, 0, none⟩), .int .i64 each, .agg (mfL m e o).toArray, .slice ab bl.length cb] w (Ret (NewR ad g each m (bl.map (·.1)) V d l c is z (zD2 l d ev V q cc n :: zB9 d dk :: L))) := by
  obtain ⟨ea, ec⟩ := e; obtain ⟨oa, oc⟩ := o; obtain ⟨z1, z2, z3, z4⟩ := z; simp only at hj hz; have hb0 : (bl.map (·.1)).length = bl.length := List.length_map ..; refine zAf Tryz.func15 rfl rfl ?_
  skip
  refine zA3 (zA2 ?_); refine zBi (v := .agg _) hs rfl rfl ?_; clear hs; intro b10 w hs
  try simp only [zzs, zzz] at hs
  refine zA rfl (zA0 (v := .pointer none) rfl) ?_; refine zA rfl (zA0 (v := .nilIface) rfl) ?_; refine zA6 ?_; refine zA3 ?_; refine zA3 (zA2 ?_); refine zA rfl (zA1 (v := .int .i64 _) rfl) ?_; refine zA rfl (zBb rfl rfl) ?_; refine zA rfl (zA1 (v := .bool _) rfl) ?_; refine zB3 (t := _) (d := 26) rfl ?_ ?_
  ·
   intro h25; have g25 := of_decide_eq_true h25; refine zA9 rfl rfl rfl h25 ?_; refine zA9 rfl rfl rfl h25 ?_; refine zA rfl (zAm (v := .bool _) rfl h25 rfl) ?_; refine zA6 ?_; refine zBc rfl rfl ?_; refine zA3 ?_; refine zAo zBj hs ?_; intro w tr hK; replace hs := tr _ hs; clear tr; refine zA4 0 rfl rfl (fun w hs => zA7 zCh rfl rfl (hE.cellW hs 105 (by decide) rfl)) hK ?_; refine zA4 1 rfl rfl (fun w hs => zA0 (v := .pointer none) rfl) hK ?_; refine zA4 2 rfl rfl (fun w hs => zA0 (v := zAh ad _) rfl) hK ?_; refine zAt (by kernel_rfl) ?_; clear hK; refine zAc ?_; refine zE4 (v := .pointer none) (v2 := zAh ad _) rfl rfl rfl ?_
   have hF : upF each m (bl.map (·.1)) = (105, none) := by rw [upF, if_pos (by omega)]
   refine ⟨_, rfl, Or.inl ?_⟩; rw [hF]; exact ⟨by decide, 0, rfl, hs.tail.addE (emp_okF _)⟩
  ·
   intro h25; have g25 := of_decide_eq_false h25; refine zAk rfl rfl h25 ?_; refine zA rfl (zA1 (v := .int .i64 _) rfl) ?_; refine zAk rfl rfl h25 ?_; refine zA rfl (zBs rfl rfl) ?_; refine zA rfl (zAi (v := .bool _) rfl h25 rfl) ?_; refine zA6 ?_; refine zB0 rfl ?_ ?_
   ·
    intro h28; have g28 := of_decide_eq_true h28; refine zA3 ?_; refine zAo zBj hs ?_; intro w tr hK; replace hs := tr _ hs; clear tr; refine zA4 0 rfl rfl (fun w hs => zA7 zCh rfl rfl (hE.cellW hs 105 (by decide) rfl)) hK ?_; refine zA4 1 rfl rfl (fun w hs => zA0 (v := .pointer none) rfl) hK ?_; refine zA4 2 rfl rfl (fun w hs => zA0 (v := zAh ad _) rfl) hK ?_; refine zAt (by kernel_rfl) ?_; clear hK; refine zAc ?_; refine zE4 (v := .pointer none) (v2 := zAh ad _) rfl rfl rfl ?_
    have hF : upF each m (bl.map (·.1)) = (105, none) := by rw [upF, if_pos (by omega)]
    refine ⟨_, rfl, Or.inl ?_⟩; rw [hF]; exact ⟨by decide, 0, rfl, hs.tail.addE (emp_okF _)⟩
   ·
    intro h28; have g28 := of_decide_eq_false h28; refine zAd ?_; refine zA3 ?_; refine zA3 (zA2 ?_); refine zA rfl (zC4 hs 0 (mfL m (ea, ec) (oa, oc)) rfl zCe zEe rfl rfl) ?_; refine zAb rfl en45 (validM_sl hE.uV (x := m) (e := (ea, ec)) (o := (oa, oc)) hs hm.cons.cons.cons hob) ?_; clear hs; rintro _ w ⟨eb, rfl, hs⟩; refine zA rfl (zA0 (v := flV ad _ _) rfl) ?_; refine zA6 (zA3 (zA2 ?_)); refine zA rfl (zA1 (v := flV ad _ _) rfl) ?_; refine zA rfl (run_neF (mfF_ok m).place rfl) ?_; refine zA6 ?_; refine zB0 rfl ?_ ?_
    ·
     intro h34; have g34 := zF6 h34
     have h0 : (mfF m).1 ≠ 0 := by simpa using h34
     refine zA3 (zA2 ?_); refine zA rfl (zA1 (v := flV ad _ _) rfl) ?_; refine zA rfl (zA0 (v := .pointer none) rfl) ?_; refine zA rfl (zA0 (v := flV ad _ _) rfl) ?_; refine zA6 ?_; refine zAc ?_; refine zE4 (v := .pointer none) (v2 := flV ad _ _) rfl rfl rfl ?_
     have hF : upF each m (bl.map (·.1)) = mfF m := by rw [upF, if_neg (by omega), if_pos h0]
     refine ⟨_, rfl, Or.inl ?_⟩; rw [hF]; exact ⟨h0, eb, rfl, hs.arr [0, 2, 3] 4 (by decide)⟩
    ·
     intro h34; have g34 := zF7 h34
     have h0 : (mfF m).1 = 0 := by simpa using h34
     replace hs := hs.tail; refine zAd ?_; refine zA3 ?_; refine zA3 (zA2 ?_); refine zA rfl (zA1 (v := .slice _ _ _) rfl) ?_; refine zA rfl (zAx zGc rfl) ?_; refine zA rfl (zA5 (o' := 5) zCe rfl sz37 rfl rfl rfl) ?_; refine zA rfl (zA7 zDw rfl rfl (hs.cellAt 0 rfl rfl)) ?_; refine zA rfl (zAx zDw rfl) ?_; refine zA rfl (zDv rfl rfl) ?_; refine zA6 ?_; refine zB0 rfl ?_ ?_
     ·
      intro h41; have g41 := zF6 h41; refine zA3 ?_; refine zAo zBj hs ?_; intro w tr hK; replace hs := tr _ hs; clear tr; refine zA4 0 rfl rfl (fun w hs => zA7 zCh rfl rfl (hE.cellW hs 103 (by decide) rfl)) hK ?_; refine zA4 1 rfl rfl (fun w hs => zA0 (v := .pointer none) rfl) hK ?_; refine zA4 2 rfl rfl (fun w hs => zA0 (v := zAh ad _) rfl) hK ?_; refine zAt (by kernel_rfl) ?_; clear hK; refine zAc ?_; refine zE4 (v := .pointer none) (v2 := zAh ad _) rfl rfl rfl ?_
      have hF : upF each m (bl.map (·.1)) = (103, none) := by rw [upF, if_neg (by omega), if_neg (by simpa using h0), if_pos (by rw [hb0]; omega)]
      refine ⟨_, rfl, Or.inl ?_⟩; rw [hF]; exact ⟨by decide, 0, rfl, hs.tail.addE (emp_okF _)⟩
     ·
      intro h41; have g41 := zF7 h41; refine zAd ?_; refine zA3 ?_; refine zAo zBj hs ?_; intro w tr hK; replace hs := tr _ hs; clear tr; refine zA4 0 rfl rfl (fun w hs => zA1 (v := .pointer (some _)) rfl) hK ?_; refine zA4 1 rfl rfl (fun w hs => zA1 (v := .pointer (some _)) rfl) hK ?_; refine zA4 2 rfl rfl (fun w hs => zA1 (v := .pointer (some _)) rfl) hK ?_; refine zA4 3 rfl rfl (fun w hs => zC4 hs 0 (mfL m (ea, ec) (oa, oc)) rfl zCe zEe rfl rfl) hK ?_; refine zA4 5 rfl rfl (fun w hs => zA5 (o' := 0) zCe rfl sz3 rfl rfl rfl) hK ?_; refine zA4 6 rfl rfl (fun w hs => zA7 uz3 rfl rfl (hs.cellAt 0 rfl rfl)) hK ?_
      refine zA4 7 rfl rfl (fun w hs => zBu (cs := [.int .i64 m.id, .int .i64 0, .int .i64 0, .int .i64 0]) zD4 ze103 pl103 rfl) hK ?_; refine zAe [4] ?_; refine ⟨⟨_, rfl, ?_⟩, trivial⟩; refine zAb rfl en46 (cloneM_sl hs (x := m) (e := (ea, ec)) (o := (oa, oc)) hm.cons.cons.cons heps hob) ?_; clear hs; rintro _ w ⟨s1, s2, rfl, hs⟩; clear hK; have hK := hs.tail.tail; refine zA6 ⟨hK, ?_⟩; refine @zFe _ _ _ _ _ _ _ _ _ _ _ _ _ _ 8 _ rfl (by kernel_rfl) (by kernel_rfl) (by kernel_rfl) rfl (fun w hs => run_buildUp (E := each.toNat) (m := m) (e := s1) (o := s2) zD1 ze106 pl106 rfl rfl rfl rfl rfl) hK ?_; refine zAe [9] ?_; refine ⟨⟨_, rfl, ?_⟩, trivial⟩; refine zBi (v := .agg _) hs rfl rfl ?_
      clear hs; intro b52 w hs
      try simp only [zzs, zzz] at hs
      clear hK; have hK := hs.tail.tail.tail; refine zA6 ⟨hK, ?_⟩; refine zA4 10 rfl rfl (fun w hs => zA0 (v := .pointer (some _)) rfl) hK ?_; refine zAt (by kernel_rfl) ?_; clear hK; obtain ⟨E, rfl⟩ : ∃ E : Nat, each = E := ⟨each.toNat, by omega⟩; replace hs := (((Mem.stars (M := []) (L := _ :: _ :: _ :: _ :: _ :: _ :: L) hs).addE (rowK_nil 5 _)).addE (zDd _)).arr [3, 4, 5, 0, 1, 2, 6, 7, 8] 9 (by decide); refine zA3 ?_; refine zA3 (zA2 ?_); refine zA rfl (zA5 (o' := 5) zCe rfl sz37 rfl rfl rfl) ?_; refine zA rfl (zA7 zDw rfl rfl (hs.cellAt 6 rfl rfl)) ?_; refine zA rfl (zAx zDw rfl) ?_; refine zA rfl (zA1 (v := .int .i64 _) rfl) ?_; refine zA6 ?_; refine zAn ?_
      refine zBt (X := Nat × List (List UInt8 × SA) × SA × SA) [12, 13, 16, 17, 18, 19, 56, 57, 58, 59, 60, 61, 62, 63, 64, 65, 66, 67, 68, 69, 70, 71, 72, 73, 74, 75, 76, 77, 78, 79, 80, 81, 82, 83, 84, 85, 86, 87, 88, 89, 90, 91, 92, 93, 94, 95, 96, 97, 98, 99, 100, 101, 102, 103, 104, 105, 106, 107, 108, 109, 110, 111] (fun x => [(56, .int .i64 (x.1 : Nat))]) (fun x w => (x.1 ≤ m.obs.length ∧ x.2.1.map (·.1) = (bl.map (·.1)).take x.1 ∧ upG E 0 m.obs (bl.map (·.1)) = upG E x.1 (m.obs.drop x.1) ((bl.map (·.1)).drop x.1)) ∧ Mem g w (ucO b52 (upTo d l c E m s1 s2 x) (m.id, 0, 0, 0) false (cells b10 (mfL m (ea, ec) (oa, oc)) 39 :: zD2 l d ev V q cc n :: zB9 d dk :: L))) (fun x => m.obs.length - x.1) ((0, [], (none, 0), (none, 0))) ?_ ?_ ?_
      · exact ⟨rfl, trivial⟩
      · exact ⟨⟨Nat.zero_le _, rfl, rfl⟩, Mem.noPlans hs⟩
      clear hs; rintro x ξ w hI; obtain ⟨k, xs, ⟨a3, c3⟩, ⟨a4, c4⟩⟩ := x; obtain ⟨⟨hk, hxs, hup⟩, hs⟩ := hI; simp only at hk hxs hup hs
      show cw _ _ _ _ _ _ (updL (mix _ ξ _) [(56, .int .i64 (k : Nat))]) w
      refine zA3 (zA2 ?_); refine zA rfl (zBb rfl rfl) ?_; refine zA6 ?_; refine zA3 ?_; refine zB0 rfl ?_ ?_
      ·
       intro h57; have g57 := of_decide_eq_true h57; obtain ⟨ob, hob2⟩ : ∃ ob, m.obs[k]? = some ob := ⟨_, List.getElem?_eq_getElem (by omega)⟩; obtain ⟨y, hy⟩ : ∃ y, bl[k]? = some y := ⟨_, List.getElem?_eq_getElem (by omega)⟩; have hym := List.mem_of_getElem? hy
       have hyv : (bl.map bV)[k]? = some (bV y) := by rw [List.getElem?_map, hy]; rfl
       have hyb : (bl.map (·.1))[k]? = some y.1 := by rw [List.getElem?_map, hy]; rfl
       rw [upG_at hob2 hyb] at hup
       have hxl : xs.length = k := by have := congrArg List.length hxs; simp only [List.length_map, List.length_take] at this; omega
       obtain ⟨bo, oo, rfl⟩ := hm.obs.at (hs.suffix 9 rfl) (by rw [zEk]; omega); obtain ⟨bb, bo2, rfl, _⟩ := hb.cells' (hs.suffix 9 rfl) (by rw [List.length_map]; omega); refine zAd ?_; refine zA3 ?_; refine zAn ?_; refine zA3 (zA2 ?_); refine zA rfl (zA1 (v := .int .i64 _) rfl) ?_; refine zA rfl (zAv zDw sz66 rfl rfl rfl (by omega) rfl) ?_; refine zA rfl (zD8 (cs := obL ob) uz66 sz66 rfl (fun j v hj => hm.obs.cell (hs.suffix 9 rfl) (zFo hob2) hj)) ?_; refine zBm hs rfl ze66 ?_; clear hs; intro b17 w hs
       try simp only [zzs, zzz] at hs
       refine zA rfl (zA0 (v := .int .i64 _) rfl) ?_; refine zAp hs 0 rfl rfl rfl sz66 rfl rfl ?_; clear hs; intro w hs
       try simp only [zzs, zzz] at hs
       refine zA6 ?_; refine zA3 ?_; refine zAo zBj hs ?_; intro w tr hK; replace hs := tr _ hs; clear tr; refine zA4 0 rfl rfl (fun w hs => zB7 hs 0 rfl uz66 sz66 rfl) hK ?_; refine zA4 1 rfl rfl (fun w hs => zA1 (v := .slice _ _ _) rfl) hK ?_; refine zA4 2 rfl rfl (fun w hs => zA1 (v := .int .i64 _) rfl) hK ?_; refine zA4 3 rfl rfl (fun w hs => zBd zGc sz22 rfl rfl rfl (by omega) rfl) hK ?_; refine zA4 4 rfl rfl (fun w hs => zA7 zCi rfl rfl (hb.cellAt (hs.suffix 10 rfl) hyv)) hK ?_; refine zAe [5] ?_; refine ⟨⟨_, rfl, ?_⟩, trivial⟩; refine zAb rfl en47 (check_sl hE hs (fun w hs => hbr y hym w (hs.suffix 10 rfl)) (hbl y hym)) ?_; clear hs; rintro _ w ⟨rfl, hs⟩; clear hK; have hK := hs
       refine zA6 ⟨hK, ?_⟩; refine zA4 6 rfl rfl (fun w hs => zA0 (v := zAh ad _) rfl) hK ?_; refine zAt (by kernel_rfl) ?_; clear hK; refine zA3 (zA2 ?_); refine zBm hs rfl ze109 ?_; clear hs; intro b19 w hs
       try simp only [zzs, zzz] at hs
       refine zA6 ?_; refine zA3 ?_; refine zA3 (zA2 ?_); refine zA rfl (zA1 (v := zAh ad _) rfl) ?_; refine zA rfl (zDl (ad := ad) rfl) ?_; refine zA6 ?_; refine zB0 rfl ?_ ?_
       ·
        intro h68; have g68 := of_decide_eq_true h68
        have hck : obCk ob y.1 = 0 := by simpa using h68
        refine zAo zBj hs.tail ?_; intro w tr hK; replace hs := tr _ hs; clear tr; refine zA4 0 rfl rfl (fun w hs => zA5 (o' := 0) uz66 rfl sz9 rfl rfl rfl) hK ?_; refine zA4 1 rfl rfl (fun w hs => zA7 uz9 rfl rfl (hs.cellAt 0 rfl rfl)) hK ?_; refine zA4 2 rfl rfl (fun w hs => zA1 (v := .slice _ _ _) rfl) hK ?_; refine zA4 3 rfl rfl (fun w hs => zA1 (v := .int .i64 _) rfl) hK ?_; refine zA4 4 rfl rfl (fun w hs => zBd zGc sz22 rfl rfl rfl (by omega) rfl) hK ?_; refine zA4 5 rfl rfl (fun w hs => zA7 zCi rfl rfl (hb.cellAt (hs.suffix 10 rfl) hyv)) hK ?_; refine zA4 6 rfl rfl (fun w hs => zA1 (v := .int .i64 _) rfl) hK ?_; refine zAe [7] ?_; refine ⟨⟨_, rfl, ?_⟩, trivial⟩
        refine zAb rfl en48 (pmake_sl hE.uG hs (fun w hs => hbr y hym w (hs.suffix 11 rfl)) rfl (hbl y hym) hea) ?_; clear hs; rintro _ w ⟨c77, nm77, sz77, sm77, ea77, pa77, hmk, rfl, hs⟩; clear hK; have hK := hs.tail; refine zA6 ⟨hK, ?_⟩; refine zA4 8 rfl rfl (fun w hs => zA1 (v := .tuple _) rfl) hK ?_; refine zA4 9 rfl rfl (fun w hs => zAa (v := .agg _) rfl rfl) hK ?_; refine zA4 10 rfl rfl (fun w hs => zAa (v := zAh ad _) rfl rfl) hK ?_; refine zAe [11] ?_; refine ⟨⟨_, rfl, ?_⟩, trivial⟩; refine zAp hs 0 rfl rfl rfl zFz rfl rfl ?_; clear hs; intro w hs
        try simp only [zzs, zzz] at hs
        clear hK; have hK := hs.tail; refine zA6 ⟨hK, ?_⟩; refine zA4 12 rfl rfl (fun w hs => zA0 (v := zAh ad _) rfl) hK ?_; refine zAt (by kernel_rfl) ?_; clear hK; refine zA3 ?_; refine zA3 (zA2 ?_); refine zA rfl (zA1 (v := zAh ad _) rfl) ?_; refine zA rfl (zAu (ad := ad) rfl) ?_; refine zA6 ?_; refine zB0 rfl ?_ ?_
        ·
         intro h81; have g81 := zF6 h81; refine zA3 (zA2 ?_); refine zA rfl (zA1 (v := .int .i64 _) rfl) ?_; refine zA rfl (zA1 (v := zAh ad _) rfl) ?_; refine zA rfl (zC2 [.int .i64 (k : Nat), zAh ad c77] uz114 ze114 pl114 rfl (at_one _ _) rfl rfl) ?_; refine zBi (v := .agg _) hs rfl rfl ?_; clear hs; intro b85 w hs
         try simp only [zzs, zzz] at hs
         refine zA rfl (run_mkI uz112 rfl) ?_; refine zA rfl (zA0 (v := .pointer none) rfl) ?_; refine zA rfl (zA0 (v := .iface _ (.pointer (some _))) rfl) ?_; refine zA6 ?_; refine zAc ?_; refine zE4 (v := .pointer none) (v2 := .iface _ (.pointer (some _))) rfl rfl rfl ?_
         have hg : obG E ob y.1 = c77 := by rw [obG, if_neg (by simp [hck]), hmk]
         have hF : upF E m (bl.map (·.1)) = (c77, some k) := by rw [upF, if_neg (by omega), if_neg (by simpa using h0), if_neg (by rw [hb0]; omega), hup, hg, if_pos g81]
         refine ⟨_, rfl, Or.inl ?_⟩; rw [hF]; exact ⟨g81, b85, rfl, hs.arr [0, 10, 11] 12 (by decide)⟩
        ·
         intro h81; have g81 := zF7 h81
         have hc0 : c77 = 0 := by simpa using h81
         subst hc0; obtain ⟨rfl, rfl, rfl, rfl, rfl⟩ := mkR_ok hmk; refine zAd ?_
         have hpl : (zCb E m.obs xs).length = k := by rw [zCb, List.length_map, List.length_zip]; omega
         replace hs := hs.arr [2, 5, 6, 0, 1, 3, 4, 7, 8, 9, 10] 11 (by decide); refine zAo zBj ((show Mem g w (newH (cells b19 (zEj E ob y.1) 109) (cells b17 (obL ob) 66) (cells b10 (mfL m (ea, ec) (some ⟨bo, oo, none⟩, oc)) 39) (upTo d l c E m s1 s2 (k, xs, (a3, c3), (a4, c4))) (zD2 l d ev V q cc n :: zB9 d dk :: L)) from by first | exact hs.suffix 3 rfl | exact hs.suffix 4 rfl | exact hs.suffix 5 rfl | exact hs.suffix 6 rfl)) ?_; intro w tr hK; replace hs := tr _ hs; clear tr; refine zA4 0 rfl rfl (fun w hs => zA1 (v := .pointer (some _)) rfl) hK ?_; refine zA4 1 rfl rfl (fun w hs => zA1 (v := .pointer (some _)) rfl) hK ?_
         refine zA4 2 rfl rfl (fun w hs => zA1 (v := .pointer (some _)) rfl) hK ?_; refine zA4 3 rfl rfl (fun w hs => zA8 rfl) hK ?_; refine zA4 4 rfl rfl (fun w hs => zA5 (o' := 10) zD1 rfl sz104 rfl rfl rfl) hK ?_; refine zA4 6 rfl rfl (fun w hs => zB7 hs 0 rfl zEb zFz rfl) hK ?_; refine zA4 9 rfl rfl (fun w hs => zA1 (v := .pointer (some _)) rfl) hK ?_; refine zA4 10 rfl rfl (fun w hs => zA8 rfl) hK ?_; refine zA4 11 rfl rfl (fun w hs => zA5 (o' := 9) zD1 rfl sz62 rfl rfl rfl) hK ?_; refine zA4 13 rfl rfl (fun w hs => zA1 (v := .slice _ _ _) rfl) hK ?_; refine zA4 14 rfl rfl (fun w hs => zA1 (v := .int .i64 _) rfl) hK ?_
         refine zA4 15 rfl rfl (fun w hs => zBd zGc sz22 rfl rfl rfl (by omega) rfl) hK ?_; refine zA4 16 rfl rfl (fun w hs => zA7 zCi rfl rfl (hb.cellAt (hs.suffix 8 rfl) hyv)) hK ?_; refine zAe [5, 7, 12] ?_; refine ⟨⟨_, rfl, ?_⟩, ⟨_, rfl, ?_⟩, ⟨_, rfl, ?_⟩, trivial⟩; refine zA rfl (zA7 zDj rfl rfl (hs.cellAt 0 rfl rfl)) ?_; clear hK; have hK := (show Mem g w (newH (cells b19 (zEj E ob y.1) 109) (cells b17 (obL ob) 66) (cells b10 (mfL m (ea, ec) (some ⟨bo, oo, none⟩, oc)) 39) (upTo d l c E m s1 s2 (k, xs, (a3, c3), (a4, c4))) (zD2 l d ev V q cc n :: zB9 d dk :: L)) from by first | exact hs.suffix 3 rfl | exact hs.suffix 4 rfl | exact hs.suffix 5 rfl | exact hs.suffix 6 rfl)
         refine zA6 ⟨hK, ?_⟩; refine zAe [7, 12] ?_; refine ⟨⟨_, rfl, ?_⟩, ⟨_, rfl, ?_⟩, trivial⟩; refine zD0 hs rfl (row := zEj E ob y.1) zDj zsPl rfl (fill_plan _ _ _ _ _) (by decide) (by decide) ?_; clear hs; intro b94 w hs; clear hK; have hK := hs.suffix 4 rfl; refine zA6 ⟨hK, ?_⟩; refine zAe [8, 12] ?_; refine ⟨⟨_, rfl, ?_⟩, ⟨_, rfl, ?_⟩, trivial⟩; refine zCr hs rfl 3 0 rfl rfl zDj zDj in109 rfl rfl (by rfl) rfl rfl (by show ((zCb E m.obs xs).length + 1) * _ ≤ 140737488355328; rw [hpl]; omega) (by show (zCb E m.obs xs).length + 1 ≤ _; rw [hpl]; omega) ?_; clear hs; intro a95 c95 w hs; simp only [zzs, zzz] at hs; clear hK; have hK := hs.suffix 4 rfl
         refine zA6 ⟨hK, ?_⟩; refine zAe [12, 17] ?_; refine ⟨⟨_, rfl, ?_⟩, ⟨_, rfl, ?_⟩, trivial⟩; refine zA rfl (zA7 zGc rfl rfl (hs.cellAt 1 rfl rfl)) ?_; clear hK; have hK := (show Mem g w (newH (cells b19 (zEj E ob y.1) 109) (cells b17 (obL ob) 66) (cells b10 (mfL m (ea, ec) (some ⟨bo, oo, none⟩, oc)) 39) (upTo d l c E m s1 s2 (k, xs, (a3, c3), (a4, c4))) (zD2 l d ev V q cc n :: zB9 d dk :: L)) from by first | exact hs.suffix 3 rfl | exact hs.suffix 4 rfl | exact hs.suffix 5 rfl | exact hs.suffix 6 rfl); refine zA6 ⟨hK, ?_⟩; refine zAe [17] ?_; refine ⟨⟨_, rfl, ?_⟩, trivial⟩
         refine zAb rfl en49 (zCo hs (l := y.1) (fun w hs => hbr y hym w (hs.suffix 12 rfl)) (by have := hbl y hym; omega)) ?_; clear hs; rintro _ w ⟨a104, c104, rfl, hs⟩; rw [zAr] at hs ⊢
         have hone : ∀ u ∈ [bV (y.1, (a104, c104))], u.oneCell' = true := fun u hu => by simp only [List.mem_cons, List.not_mem_nil, or_false] at hu; subst hu; rfl
         clear hK; have hK := hs.suffix 5 rfl; refine zA6 ⟨hK, ?_⟩; refine zAe [18] ?_; refine ⟨⟨_, rfl, ?_⟩, trivial⟩; refine zB hs rfl ([bV (y.1, (a104, c104))]) zGc zs22 rfl (fun u hu => (by simp only [List.mem_cons, List.not_mem_nil, or_false] at hu; subst hu; rfl)) rfl rfl rfl ?_; clear hs; intro b105 w hs
         try simp only [zzs, zzz] at hs
         clear hK; have hK := hs.suffix 6 rfl
         rotate_left
         refine zAb rfl en49 (zCo hs (l := y.1) (fun w hs => hbr y hym w (hs.suffix 12 rfl)) (by have := hbl y hym; omega)) ?_; clear hs; rintro _ w ⟨a104, c104, rfl, hs⟩; rw [zAr] at hs ⊢
         have hone : ∀ u ∈ [bV (y.1, (a104, c104))], u.oneCell' = true := fun u hu => by simp only [List.mem_cons, List.not_mem_nil, or_false] at hu; subst hu; rfl
         clear hK; have hK := hs.suffix 5 rfl; refine zA6 ⟨hK, ?_⟩; refine zAe [12, 18] ?_; refine ⟨⟨_, rfl, ?_⟩, ⟨_, rfl, ?_⟩, trivial⟩; refine zA rfl (zA7 zGc rfl rfl (hs.cellAt 2 rfl rfl)) ?_; clear hK; have hK := (show Mem g w (newH (cells b19 (zEj E ob y.1) 109) (cells b17 (obL ob) 66) (cells b10 (mfL m (ea, ec) (some ⟨bo, oo, none⟩, oc)) 39) (upTo d l c E m s1 s2 (k, xs, (a3, c3), (a4, c4))) (zD2 l d ev V q cc n :: zB9 d dk :: L)) from by first | exact hs.suffix 3 rfl | exact hs.suffix 4 rfl | exact hs.suffix 5 rfl | exact hs.suffix 6 rfl); refine zA6 ⟨hK, ?_⟩; refine zAe [18] ?_; refine ⟨⟨_, rfl, ?_⟩, trivial⟩
         refine zB hs rfl ([bV (y.1, (a104, c104))]) zGc zs22 rfl (fun u hu => (by simp only [List.mem_cons, List.not_mem_nil, or_false] at hu; subst hu; rfl)) rfl rfl rfl ?_; clear hs; intro b105 w hs
         try simp only [zzs, zzz] at hs
         clear hK; have hK := hs.suffix 6 rfl
         rotate_left
         refine zB hs rfl ([bV (y.1, (a104, c104))]) zGc zs22 rfl (fun u hu => (by simp only [List.mem_cons, List.not_mem_nil, or_false] at hu; subst hu; rfl)) rfl rfl rfl ?_; clear hs; intro b105 w hs
         try simp only [zzs, zzz] at hs
         clear hK; have hK := hs.suffix 6 rfl; refine zA6 ⟨hK, ?_⟩; refine zAe [12] ?_; refine ⟨⟨_, rfl, ?_⟩, trivial⟩; refine zA rfl (zA7 zGc rfl rfl (hs.cellAt 3 rfl rfl)) ?_; clear hK; have hK := (show Mem g w (newH (cells b19 (zEj E ob y.1) 109) (cells b17 (obL ob) 66) (cells b10 (mfL m (ea, ec) (some ⟨bo, oo, none⟩, oc)) 39) (upTo d l c E m s1 s2 (k, xs, (a3, c3), (a4, c4))) (zD2 l d ev V q cc n :: zB9 d dk :: L)) from by first | exact hs.suffix 3 rfl | exact hs.suffix 4 rfl | exact hs.suffix 5 rfl | exact hs.suffix 6 rfl)
         rotate_left
         refine zA rfl (zA7 zGc rfl rfl (hs.cellAt 1 rfl rfl)) ?_; clear hK; have hK := (show Mem g w (newH (cells b19 (zEj E ob y.1) 109) (cells b17 (obL ob) 66) (cells b10 (mfL m (ea, ec) (some ⟨bo, oo, none⟩, oc)) 39) (upTo d l c E m s1 s2 (k, xs, (a3, c3), (a4, c4))) (zD2 l d ev V q cc n :: zB9 d dk :: L)) from by first | exact hs.suffix 3 rfl | exact hs.suffix 4 rfl | exact hs.suffix 5 rfl | exact hs.suffix 6 rfl); refine zA6 ⟨hK, ?_⟩; refine zAe [8] ?_; refine ⟨⟨_, rfl, ?_⟩, trivial⟩
         refine zCr hs rfl 3 0 rfl rfl zDj zDj in109 rfl rfl (by rfl) rfl rfl (by show ((zCb E m.obs xs).length + 1) * _ ≤ 140737488355328; rw [hpl]; omega) (by show (zCb E m.obs xs).length + 1 ≤ _; rw [hpl]; omega) ?_; clear hs; intro a95 c95 w hs; simp only [zzs, zzz] at hs; clear hK; have hK := hs.suffix 4 rfl; refine zA6 ⟨hK, ?_⟩; refine zAe [17] ?_; refine ⟨⟨_, rfl, ?_⟩, trivial⟩; refine zAb rfl en49 (zCo hs (l := y.1) (fun w hs => hbr y hym w (hs.suffix 12 rfl)) (by have := hbl y hym; omega)) ?_; clear hs; rintro _ w ⟨a104, c104, rfl, hs⟩; rw [zAr] at hs ⊢
         have hone : ∀ u ∈ [bV (y.1, (a104, c104))], u.oneCell' = true := fun u hu => by simp only [List.mem_cons, List.not_mem_nil, or_false] at hu; subst hu; rfl
         clear hK; have hK := hs.suffix 5 rfl; refine zA6 ⟨hK, ?_⟩; refine zAe [18] ?_; refine ⟨⟨_, rfl, ?_⟩, trivial⟩; refine zB hs rfl ([bV (y.1, (a104, c104))]) zGc zs22 rfl (fun u hu => (by simp only [List.mem_cons, List.not_mem_nil, or_false] at hu; subst hu; rfl)) rfl rfl rfl ?_; clear hs; intro b105 w hs
         try simp only [zzs, zzz] at hs
         clear hK; have hK := hs.suffix 6 rfl
         rotate_left
         refine zA rfl (zA7 zGc rfl rfl (hs.cellAt 0 rfl rfl)) ?_; clear hK; have hK := (show Mem g w (newH (cells b19 (zEj E ob y.1) 109) (cells b17 (obL ob) 66) (cells b10 (mfL m (ea, ec) (some ⟨bo, oo, none⟩, oc)) 39) (upTo d l c E m s1 s2 (k, xs, (a3, c3), (a4, c4))) (zD2 l d ev V q cc n :: zB9 d dk :: L)) from by first | exact hs.suffix 3 rfl | exact hs.suffix 4 rfl | exact hs.suffix 5 rfl | exact hs.suffix 6 rfl); refine zA6 ⟨hK, ?_⟩; refine zAe [7] ?_; refine ⟨⟨_, rfl, ?_⟩, trivial⟩; refine zD0 hs rfl (row := zEj E ob y.1) zDj zsPl rfl (fill_plan _ _ _ _ _) (by decide) (by decide) ?_; clear hs; intro b94 w hs; clear hK; have hK := hs.suffix 4 rfl; refine zA6 ⟨hK, ?_⟩
         refine zAe [8] ?_; refine ⟨⟨_, rfl, ?_⟩, trivial⟩; refine zCr hs rfl 3 0 rfl rfl zDj zDj in109 rfl rfl (by rfl) rfl rfl (by show ((zCb E m.obs xs).length + 1) * _ ≤ 140737488355328; rw [hpl]; omega) (by show (zCb E m.obs xs).length + 1 ≤ _; rw [hpl]; omega) ?_; clear hs; intro a95 c95 w hs; simp only [zzs, zzz] at hs; clear hK; have hK := hs.suffix 4 rfl; refine zA6 ⟨hK, ?_⟩; refine zAe [17] ?_; refine ⟨⟨_, rfl, ?_⟩, trivial⟩; refine zAb rfl en49 (zCo hs (l := y.1) (fun w hs => hbr y hym w (hs.suffix 12 rfl)) (by have := hbl y hym; omega)) ?_; clear hs; rintro _ w ⟨a104, c104, rfl, hs⟩; rw [zAr] at hs ⊢
         have hone : ∀ u ∈ [bV (y.1, (a104, c104))], u.oneCell' = true := fun u hu => by simp only [List.mem_cons, List.not_mem_nil, or_false] at hu; subst hu; rfl
         clear hK; have hK := hs.suffix 5 rfl; refine zA6 ⟨hK, ?_⟩; refine zAe [18] ?_; refine ⟨⟨_, rfl, ?_⟩, trivial⟩; refine zB hs rfl ([bV (y.1, (a104, c104))]) zGc zs22 rfl (fun u hu => (by simp only [List.mem_cons, List.not_mem_nil, or_false] at hu; subst hu; rfl)) rfl rfl rfl ?_; clear hs; intro b105 w hs
         try simp only [zzs, zzz] at hs
         clear hK; have hK := hs.suffix 6 rfl
         rotate_left
         refine zD0 hs rfl (row := zEj E ob y.1) zDj zsPl rfl (fill_plan _ _ _ _ _) (by decide) (by decide) ?_; clear hs; intro b94 w hs; clear hK; have hK := hs.suffix 4 rfl; refine zA6 ⟨hK, ?_⟩; refine zAe [5, 12] ?_; refine ⟨⟨_, rfl, ?_⟩, ⟨_, rfl, ?_⟩, trivial⟩; refine zA rfl (zA7 zDj rfl rfl (hs.cellAt 1 rfl rfl)) ?_; clear hK; have hK := (show Mem g w (newH (cells b19 (zEj E ob y.1) 109) (cells b17 (obL ob) 66) (cells b10 (mfL m (ea, ec) (some ⟨bo, oo, none⟩, oc)) 39) (upTo d l c E m s1 s2 (k, xs, (a3, c3), (a4, c4))) (zD2 l d ev V q cc n :: zB9 d dk :: L)) from by first | exact hs.suffix 3 rfl | exact hs.suffix 4 rfl | exact hs.suffix 5 rfl | exact hs.suffix 6 rfl)
         refine zA6 ⟨hK, ?_⟩; refine zAe [8, 12] ?_; refine ⟨⟨_, rfl, ?_⟩, ⟨_, rfl, ?_⟩, trivial⟩; refine zCr hs rfl 3 0 rfl rfl zDj zDj in109 rfl rfl (by rfl) rfl rfl (by show ((zCb E m.obs xs).length + 1) * _ ≤ 140737488355328; rw [hpl]; omega) (by show (zCb E m.obs xs).length + 1 ≤ _; rw [hpl]; omega) ?_; clear hs; intro a95 c95 w hs; simp only [zzs, zzz] at hs; clear hK; have hK := hs.suffix 4 rfl; refine zA6 ⟨hK, ?_⟩; refine zAe [12, 17] ?_; refine ⟨⟨_, rfl, ?_⟩, ⟨_, rfl, ?_⟩, trivial⟩; refine zA rfl (zA7 zGc rfl rfl (hs.cellAt 1 rfl rfl)) ?_; clear hK
         have hK := (show Mem g w (newH (cells b19 (zEj E ob y.1) 109) (cells b17 (obL ob) 66) (cells b10 (mfL m (ea, ec) (some ⟨bo, oo, none⟩, oc)) 39) (upTo d l c E m s1 s2 (k, xs, (a3, c3), (a4, c4))) (zD2 l d ev V q cc n :: zB9 d dk :: L)) from by first | exact hs.suffix 3 rfl | exact hs.suffix 4 rfl | exact hs.suffix 5 rfl | exact hs.suffix 6 rfl); refine zA6 ⟨hK, ?_⟩; refine zAe [17] ?_; refine ⟨⟨_, rfl, ?_⟩, trivial⟩; refine zAb rfl en49 (zCo hs (l := y.1) (fun w hs => hbr y hym w (hs.suffix 12 rfl)) (by have := hbl y hym; omega)) ?_; clear hs; rintro _ w ⟨a104, c104, rfl, hs⟩; rw [zAr] at hs ⊢
         have hone : ∀ u ∈ [bV (y.1, (a104, c104))], u.oneCell' = true := fun u hu => by simp only [List.mem_cons, List.not_mem_nil, or_false] at hu; subst hu; rfl
         clear hK; have hK := hs.suffix 5 rfl; refine zA6 ⟨hK, ?_⟩; refine zAe [18] ?_; refine ⟨⟨_, rfl, ?_⟩, trivial⟩; refine zB hs rfl ([bV (y.1, (a104, c104))]) zGc zs22 rfl (fun u hu => (by simp only [List.mem_cons, List.not_mem_nil, or_false] at hu; subst hu; rfl)) rfl rfl rfl ?_; clear hs; intro b105 w hs
         try simp only [zzs, zzz] at hs
         clear hK; have hK := hs.suffix 6 rfl
         rotate_left
         refine zAb rfl en49 (zCo hs (l := y.1) (fun w hs => hbr y hym w (hs.suffix 12 rfl)) (by have := hbl y hym; omega)) ?_; clear hs; rintro _ w ⟨a104, c104, rfl, hs⟩; rw [zAr] at hs ⊢
         have hone : ∀ u ∈ [bV (y.1, (a104, c104))], u.oneCell' = true := fun u hu => by simp only [List.mem_cons, List.not_mem_nil, or_false] at hu; subst hu; rfl
         clear hK; have hK := hs.suffix 5 rfl; refine zA6 ⟨hK, ?_⟩; refine zAe [12, 18] ?_; refine ⟨⟨_, rfl, ?_⟩, ⟨_, rfl, ?_⟩, trivial⟩; refine zA rfl (zA7 zGc rfl rfl (hs.cellAt 2 rfl rfl)) ?_; clear hK; have hK := (show Mem g w (newH (cells b19 (zEj E ob y.1) 109) (cells b17 (obL ob) 66) (cells b10 (mfL m (ea, ec) (some ⟨bo, oo, none⟩, oc)) 39) (upTo d l c E m s1 s2 (k, xs, (a3, c3), (a4, c4))) (zD2 l d ev V q cc n :: zB9 d dk :: L)) from by first | exact hs.suffix 3 rfl | exact hs.suffix 4 rfl | exact hs.suffix 5 rfl | exact hs.suffix 6 rfl); refine zA6 ⟨hK, ?_⟩; refine zAe [18] ?_; refine ⟨⟨_, rfl, ?_⟩, trivial⟩
         refine zB hs rfl ([bV (y.1, (a104, c104))]) zGc zs22 rfl (fun u hu => (by simp only [List.mem_cons, List.not_mem_nil, or_false] at hu; subst hu; rfl)) rfl rfl rfl ?_; clear hs; intro b105 w hs
         try simp only [zzs, zzz] at hs
         clear hK; have hK := hs.suffix 6 rfl
         rotate_left
         refine zB hs rfl ([bV (y.1, (a104, c104))]) zGc zs22 rfl (fun u hu => (by simp only [List.mem_cons, List.not_mem_nil, or_false] at hu; subst hu; rfl)) rfl rfl rfl ?_; clear hs; intro b105 w hs
         try simp only [zzs, zzz] at hs
         clear hK; have hK := hs.suffix 6 rfl; refine zA6 ⟨hK, ?_⟩; refine zAe [12] ?_; refine ⟨⟨_, rfl, ?_⟩, trivial⟩; refine zA rfl (zA7 zGc rfl rfl (hs.cellAt 3 rfl rfl)) ?_; clear hK; have hK := (show Mem g w (newH (cells b19 (zEj E ob y.1) 109) (cells b17 (obL ob) 66) (cells b10 (mfL m (ea, ec) (some ⟨bo, oo, none⟩, oc)) 39) (upTo d l c E m s1 s2 (k, xs, (a3, c3), (a4, c4))) (zD2 l d ev V q cc n :: zB9 d dk :: L)) from by first | exact hs.suffix 3 rfl | exact hs.suffix 4 rfl | exact hs.suffix 5 rfl | exact hs.suffix 6 rfl)
         rotate_left
         refine zA rfl (zA7 zGc rfl rfl (hs.cellAt 1 rfl rfl)) ?_; clear hK; have hK := (show Mem g w (newH (cells b19 (zEj E ob y.1) 109) (cells b17 (obL ob) 66) (cells b10 (mfL m (ea, ec) (some ⟨bo, oo, none⟩, oc)) 39) (upTo d l c E m s1 s2 (k, xs, (a3, c3), (a4, c4))) (zD2 l d ev V q cc n :: zB9 d dk :: L)) from by first | exact hs.suffix 3 rfl | exact hs.suffix 4 rfl | exact hs.suffix 5 rfl | exact hs.suffix 6 rfl); refine zA6 ⟨hK, ?_⟩; refine zAe [8] ?_; refine ⟨⟨_, rfl, ?_⟩, trivial⟩
         refine zCr hs rfl 3 0 rfl rfl zDj zDj in109 rfl rfl (by rfl) rfl rfl (by show ((zCb E m.obs xs).length + 1) * _ ≤ 140737488355328; rw [hpl]; omega) (by show (zCb E m.obs xs).length + 1 ≤ _; rw [hpl]; omega) ?_; clear hs; intro a95 c95 w hs; simp only [zzs, zzz] at hs; clear hK; have hK := hs.suffix 4 rfl; refine zA6 ⟨hK, ?_⟩; refine zAe [17] ?_; refine ⟨⟨_, rfl, ?_⟩, trivial⟩; refine zAb rfl en49 (zCo hs (l := y.1) (fun w hs => hbr y hym w (hs.suffix 12 rfl)) (by have := hbl y hym; omega)) ?_; clear hs; rintro _ w ⟨a104, c104, rfl, hs⟩; rw [zAr] at hs ⊢
         have hone : ∀ u ∈ [bV (y.1, (a104, c104))], u.oneCell' = true := fun u hu => by simp only [List.mem_cons, List.not_mem_nil, or_false] at hu; subst hu; rfl
         clear hK; have hK := hs.suffix 5 rfl; refine zA6 ⟨hK, ?_⟩; refine zAe [18] ?_; refine ⟨⟨_, rfl, ?_⟩, trivial⟩; refine zB hs rfl ([bV (y.1, (a104, c104))]) zGc zs22 rfl (fun u hu => (by simp only [List.mem_cons, List.not_mem_nil, or_false] at hu; subst hu; rfl)) rfl rfl rfl ?_; clear hs; intro b105 w hs
         try simp only [zzs, zzz] at hs
         clear hK; have hK := hs.suffix 6 rfl
         rotate_left
         refine zA rfl (zA7 zGc rfl rfl (hs.cellAt 1 rfl rfl)) ?_; clear hK; have hK := (show Mem g w (newH (cells b19 (zEj E ob y.1) 109) (cells b17 (obL ob) 66) (cells b10 (mfL m (ea, ec) (some ⟨bo, oo, none⟩, oc)) 39) (upTo d l c E m s1 s2 (k, xs, (a3, c3), (a4, c4))) (zD2 l d ev V q cc n :: zB9 d dk :: L)) from by first | exact hs.suffix 3 rfl | exact hs.suffix 4 rfl | exact hs.suffix 5 rfl | exact hs.suffix 6 rfl); refine zA6 ⟨hK, ?_⟩; refine zAe [5] ?_; refine ⟨⟨_, rfl, ?_⟩, trivial⟩; refine zA rfl (zA7 zDj rfl rfl (hs.cellAt 1 rfl rfl)) ?_; clear hK
         have hK := (show Mem g w (newH (cells b19 (zEj E ob y.1) 109) (cells b17 (obL ob) 66) (cells b10 (mfL m (ea, ec) (some ⟨bo, oo, none⟩, oc)) 39) (upTo d l c E m s1 s2 (k, xs, (a3, c3), (a4, c4))) (zD2 l d ev V q cc n :: zB9 d dk :: L)) from by first | exact hs.suffix 3 rfl | exact hs.suffix 4 rfl | exact hs.suffix 5 rfl | exact hs.suffix 6 rfl); refine zA6 ⟨hK, ?_⟩; refine zAe [8] ?_; refine ⟨⟨_, rfl, ?_⟩, trivial⟩; refine zCr hs rfl 3 0 rfl rfl zDj zDj in109 rfl rfl (by rfl) rfl rfl (by show ((zCb E m.obs xs).length + 1) * _ ≤ 140737488355328; rw [hpl]; omega) (by show (zCb E m.obs xs).length + 1 ≤ _; rw [hpl]; omega) ?_; clear hs; intro a95 c95 w hs
         simp only [zzs, zzz] at hs; clear hK; have hK := hs.suffix 4 rfl; refine zA6 ⟨hK, ?_⟩; refine zAe [17] ?_; refine ⟨⟨_, rfl, ?_⟩, trivial⟩; refine zAb rfl en49 (zCo hs (l := y.1) (fun w hs => hbr y hym w (hs.suffix 12 rfl)) (by have := hbl y hym; omega)) ?_; clear hs; rintro _ w ⟨a104, c104, rfl, hs⟩; rw [zAr] at hs ⊢
         have hone : ∀ u ∈ [bV (y.1, (a104, c104))], u.oneCell' = true := fun u hu => by simp only [List.mem_cons, List.not_mem_nil, or_false] at hu; subst hu; rfl
         clear hK; have hK := hs.suffix 5 rfl; refine zA6 ⟨hK, ?_⟩; refine zAe [18] ?_; refine ⟨⟨_, rfl, ?_⟩, trivial⟩; refine zB hs rfl ([bV (y.1, (a104, c104))]) zGc zs22 rfl (fun u hu => (by simp only [List.mem_cons, List.not_mem_nil, or_false] at hu; subst hu; rfl)) rfl rfl rfl ?_; clear hs; intro b105 w hs
         try simp only [zzs, zzz] at hs
         clear hK; have hK := hs.suffix 6 rfl
         rotate_left
         refine zA rfl (zA7 zGc rfl rfl (hs.cellAt 0 rfl rfl)) ?_; clear hK; have hK := (show Mem g w (newH (cells b19 (zEj E ob y.1) 109) (cells b17 (obL ob) 66) (cells b10 (mfL m (ea, ec) (some ⟨bo, oo, none⟩, oc)) 39) (upTo d l c E m s1 s2 (k, xs, (a3, c3), (a4, c4))) (zD2 l d ev V q cc n :: zB9 d dk :: L)) from by first | exact hs.suffix 3 rfl | exact hs.suffix 4 rfl | exact hs.suffix 5 rfl | exact hs.suffix 6 rfl); refine zA6 ⟨hK, ?_⟩; refine zAe [5, 7] ?_; refine ⟨⟨_, rfl, ?_⟩, ⟨_, rfl, ?_⟩, trivial⟩; refine zA rfl (zA7 zDj rfl rfl (hs.cellAt 0 rfl rfl)) ?_; clear hK
         have hK := (show Mem g w (newH (cells b19 (zEj E ob y.1) 109) (cells b17 (obL ob) 66) (cells b10 (mfL m (ea, ec) (some ⟨bo, oo, none⟩, oc)) 39) (upTo d l c E m s1 s2 (k, xs, (a3, c3), (a4, c4))) (zD2 l d ev V q cc n :: zB9 d dk :: L)) from by first | exact hs.suffix 3 rfl | exact hs.suffix 4 rfl | exact hs.suffix 5 rfl | exact hs.suffix 6 rfl); refine zA6 ⟨hK, ?_⟩; refine zAe [7] ?_; refine ⟨⟨_, rfl, ?_⟩, trivial⟩; refine zD0 hs rfl (row := zEj E ob y.1) zDj zsPl rfl (fill_plan _ _ _ _ _) (by decide) (by decide) ?_; clear hs; intro b94 w hs; clear hK; have hK := hs.suffix 4 rfl; refine zA6 ⟨hK, ?_⟩; refine zAe [8] ?_; refine ⟨⟨_, rfl, ?_⟩, trivial⟩
         refine zCr hs rfl 3 0 rfl rfl zDj zDj in109 rfl rfl (by rfl) rfl rfl (by show ((zCb E m.obs xs).length + 1) * _ ≤ 140737488355328; rw [hpl]; omega) (by show (zCb E m.obs xs).length + 1 ≤ _; rw [hpl]; omega) ?_; clear hs; intro a95 c95 w hs; simp only [zzs, zzz] at hs; clear hK; have hK := hs.suffix 4 rfl; refine zA6 ⟨hK, ?_⟩; refine zAe [17] ?_; refine ⟨⟨_, rfl, ?_⟩, trivial⟩; refine zAb rfl en49 (zCo hs (l := y.1) (fun w hs => hbr y hym w (hs.suffix 12 rfl)) (by have := hbl y hym; omega)) ?_; clear hs; rintro _ w ⟨a104, c104, rfl, hs⟩; rw [zAr] at hs ⊢
         have hone : ∀ u ∈ [bV (y.1, (a104, c104))], u.oneCell' = true := fun u hu => by simp only [List.mem_cons, List.not_mem_nil, or_false] at hu; subst hu; rfl
         clear hK; have hK := hs.suffix 5 rfl; refine zA6 ⟨hK, ?_⟩; refine zAe [18] ?_; refine ⟨⟨_, rfl, ?_⟩, trivial⟩; refine zB hs rfl ([bV (y.1, (a104, c104))]) zGc zs22 rfl (fun u hu => (by simp only [List.mem_cons, List.not_mem_nil, or_false] at hu; subst hu; rfl)) rfl rfl rfl ?_; clear hs; intro b105 w hs
         try simp only [zzs, zzz] at hs
         clear hK; have hK := hs.suffix 6 rfl
         rotate_left
         refine zD0 hs rfl (row := zEj E ob y.1) zDj zsPl rfl (fill_plan _ _ _ _ _) (by decide) (by decide) ?_; clear hs; intro b94 w hs; clear hK; have hK := hs.suffix 4 rfl; refine zA6 ⟨hK, ?_⟩; refine zAe [5] ?_; refine ⟨⟨_, rfl, ?_⟩, trivial⟩; refine zA rfl (zA7 zDj rfl rfl (hs.cellAt 1 rfl rfl)) ?_; clear hK; have hK := (show Mem g w (newH (cells b19 (zEj E ob y.1) 109) (cells b17 (obL ob) 66) (cells b10 (mfL m (ea, ec) (some ⟨bo, oo, none⟩, oc)) 39) (upTo d l c E m s1 s2 (k, xs, (a3, c3), (a4, c4))) (zD2 l d ev V q cc n :: zB9 d dk :: L)) from by first | exact hs.suffix 3 rfl | exact hs.suffix 4 rfl | exact hs.suffix 5 rfl | exact hs.suffix 6 rfl); refine zA6 ⟨hK, ?_⟩
         refine zAe [8] ?_; refine ⟨⟨_, rfl, ?_⟩, trivial⟩; refine zCr hs rfl 3 0 rfl rfl zDj zDj in109 rfl rfl (by rfl) rfl rfl (by show ((zCb E m.obs xs).length + 1) * _ ≤ 140737488355328; rw [hpl]; omega) (by show (zCb E m.obs xs).length + 1 ≤ _; rw [hpl]; omega) ?_; clear hs; intro a95 c95 w hs; simp only [zzs, zzz] at hs; clear hK; have hK := hs.suffix 4 rfl; refine zA6 ⟨hK, ?_⟩; refine zAe [17] ?_; refine ⟨⟨_, rfl, ?_⟩, trivial⟩; refine zAb rfl en49 (zCo hs (l := y.1) (fun w hs => hbr y hym w (hs.suffix 12 rfl)) (by have := hbl y hym; omega)) ?_; clear hs; rintro _ w ⟨a104, c104, rfl, hs⟩; rw [zAr] at hs ⊢
         have hone : ∀ u ∈ [bV (y.1, (a104, c104))], u.oneCell' = true := fun u hu => by simp only [List.mem_cons, List.not_mem_nil, or_false] at hu; subst hu; rfl
         clear hK; have hK := hs.suffix 5 rfl; refine zA6 ⟨hK, ?_⟩; refine zAe [18] ?_; refine ⟨⟨_, rfl, ?_⟩, trivial⟩; refine zB hs rfl ([bV (y.1, (a104, c104))]) zGc zs22 rfl (fun u hu => (by simp only [List.mem_cons, List.not_mem_nil, or_false] at hu; subst hu; rfl)) rfl rfl rfl ?_; clear hs; intro b105 w hs
         try simp only [zzs, zzz] at hs
         clear hK; have hK := hs.suffix 6 rfl
         rotate_left
         all_goals
          refine zA6 ⟨hK, ?_⟩; refine zAe [19] ?_; refine ⟨⟨_, rfl, ?_⟩, trivial⟩; refine zCj hs rfl 4 rfl zGc in22 rfl rfl rfl (zCa (P := Tryz.prog) zGc ((Rd.cells (n := 1) (cs := [bV (y.1, (a104, c104))]) 0 rfl rfl).seq hs) hone) (by show ((xs.map bV).length + 1) * _ ≤ 140737488355328; rw [List.length_map, hxl]; omega) (by show (xs.map bV).length + 1 ≤ _; rw [List.length_map, hxl]; omega) ?_; clear hs; intro a106 c106 w hs; simp only [zzs, zzz] at hs; clear hK; have hK := hs.suffix 6 rfl; refine zA6 ⟨hK, ?_⟩; refine zA4 20 rfl rfl (fun w hs => zA8 rfl) hK ?_; refine zA4 21 rfl rfl (fun w hs => zA5 (o' := 10) zD1 rfl sz104 rfl rfl rfl) hK ?_
          refine zAe [22] ?_; refine ⟨⟨_, rfl, ?_⟩, trivial⟩; refine zB1 (v := .slice _ _ _) hs 3 rfl sz104 rfl rfl rfl rfl ?_; clear hs; intro w hs
          try simp only [zzs, zzz] at hs
          clear hK; have hK := hs.suffix 6 rfl; refine zA6 ⟨hK, ?_⟩; refine zA4 23 rfl rfl (fun w hs => zA8 rfl) hK ?_; refine zA4 24 rfl rfl (fun w hs => zA5 (o' := 9) zD1 rfl sz62 rfl rfl rfl) hK ?_; refine zAe [25] ?_; refine ⟨⟨_, rfl, ?_⟩, trivial⟩; refine zB1 (v := .slice _ _ _) hs 3 rfl sz62 rfl rfl rfl rfl ?_; clear hs; intro w hs
          try simp only [zzs, zzz] at hs
          clear hK; have hK := hs.suffix 6 rfl; refine zA6 ⟨hK, ?_⟩; refine zAt (by kernel_rfl) ?_; clear hK; refine zA2 ?_; refine zA rfl (zAs rfl rfl rfl (inI (by omega) (by omega))) ?_; refine zA rfl (zA1 (v := .int .i64 _) rfl) ?_; refine zA6 ?_
          have hg : ¬ obG E ob y.1 ≠ 0 := by rw [obG, if_neg (by simp [hck]), hmk]; exact fun h => h rfl
          rw [if_neg hg] at hup; have h1 := (hs.arr [10, 1, 3, 8, 9, 4, 5, 11, 12, 13] 14 (by decide)).unstars; have h2 := Mem.stars (M := (xs ++ [(y.1, (a104, c104))]).map bC) (by rw [List.map_append, List.append_assoc]; exact h1)
          exact ⟨(k + 1, xs ++ [(y.1, (a104, c104))], (a106, c106), (a95, c95)), by simp only; omega, ⟨⟨by simp only; omega, by simp only [List.map_append, List.map_cons, List.map_nil, hxs]; rw [List.take_add_one, hyb]; rfl, hup⟩, Mem.moreUp (b3 := (a106, c106)) (b4 := (a95, c95)) (n3 := (xs.map bV).length + 1) (n4 := (zCb E m.obs xs).length + 1) (by simp) (by simp; omega) (plans_more (by rw [hxl]; exact hob2)) (R3 := xs.map bV ++ [bV (y.1, (a104, c104))]) (by rw [List.map_append]; rfl) h2⟩, ⟨rfl, trivial⟩, by repeat (first | exact Out.mix _ _ _ | refine Out.updo rfl ?_ | refine Out.upd rfl ?_ | refine Out.mixIn rfl ?_)⟩
       ·
        intro h68; have g68 := of_decide_eq_false h68
        have hck : obCk ob y.1 ≠ 0 := by simpa using h68
        refine zAd ?_; refine zA3 ?_; refine zA3 (zA2 ?_); refine zA rfl (zA1 (v := zAh ad _) rfl) ?_; refine zA rfl (zAu (ad := ad) rfl) ?_; refine zA6 ?_; refine zBc rfl ((by simpa using hck)) ?_; refine zA3 (zA2 ?_); refine zA rfl (zA1 (v := .int .i64 _) rfl) ?_; refine zA rfl (zA1 (v := zAh ad _) rfl) ?_; refine zA rfl (zC2 [.int .i64 (k : Nat), zAh ad (obCk ob y.1)] uz114 ze114 pl114 rfl (at_one _ _) rfl rfl) ?_; refine zBi (v := .agg _) hs rfl rfl ?_; clear hs; intro b85 w hs
        try simp only [zzs, zzz] at hs
        refine zA rfl (run_mkI uz112 rfl) ?_; refine zA rfl (zA0 (v := .pointer none) rfl) ?_; refine zA rfl (zA0 (v := .iface _ (.pointer (some _))) rfl) ?_; refine zA6 ?_; refine zAc ?_; refine zE4 (v := .pointer none) (v2 := .iface _ (.pointer (some _))) rfl rfl rfl ?_
        have hg : obG E ob y.1 = obCk ob y.1 := by rw [obG, if_pos hck]
        have hF : upF E m (bl.map (·.1)) = (obCk ob y.1, some k) := by rw [upF, if_neg (by omega), if_neg (by simpa using h0), if_neg (by rw [hb0]; omega), hup, hg, if_pos hck]
        refine ⟨_, rfl, Or.inl ?_⟩; rw [hF]; exact ⟨hck, b85, rfl, hs.arr [0, 10, 11] 12 (by decide)⟩
      ·
       intro h57; have g57 := of_decide_eq_false h57
       have hke : k = m.obs.length := by omega
       have hF0 : upF E m (bl.map (·.1)) = (0, none) := by rw [upF, if_neg (by omega), if_neg (by simpa using h0), if_neg (by rw [hb0]; omega), hup, hke, List.drop_length]; simp [upG]
       have hxl : xs.length = k := by have := congrArg List.length hxs; simp only [List.length_map, List.length_take] at this; omega
       have hxs2 : xs.map (·.1) = bl.map (·.1) := by rw [hxs, List.take_of_length_le (by rw [hb0]; omega)]
       refine zBo rfl ?_; refine zA3 ?_; refine zAo zBj hs ?_; intro w tr hK; replace hs := tr _ hs; clear tr; refine zA4 0 rfl rfl (fun w hs => zA1 (v := .pointer (some _)) rfl) hK ?_; refine zA4 2 rfl rfl (fun w hs => zA5 (o' := 0) zCe rfl sz3 rfl rfl rfl) hK ?_; refine zA4 3 rfl rfl (fun w hs => zA7 uz3 rfl rfl (hs.cellAt 6 rfl rfl)) hK ?_; refine zAe [1] ?_; refine ⟨⟨_, rfl, ?_⟩, trivial⟩; refine zAb rfl en19 (zFp (hs.arr [7, 0, 1, 2, 3, 4, 5, 6, 8] 9 (by decide))) ?_; clear hs; rintro _ w ⟨v113, rfl, hs⟩; clear hK; have hK := hs.arr [2, 3, 4, 5, 6, 7, 8, 1, 9] 10 (by decide); refine zA6 ⟨hK, ?_⟩; refine zAe [4] ?_; refine ⟨⟨_, rfl, ?_⟩, trivial⟩
       refine zAb rfl en20 (zEv hs m.id) ?_; clear hs; rintro _ w ⟨rfl, hs⟩; clear hK; have hK := hs.arr [2, 3, 4, 5, 6, 7, 8, 1, 9] 10 (by decide); refine zA6 ⟨hK, ?_⟩; refine zA4 5 rfl rfl (fun w hs => zA0 (v := .int .i64 _) rfl) hK ?_; refine zAt (by kernel_rfl) ?_; clear hK; replace hs : Mem g w (ucO b52 (upTo d l c E m s1 s2 (k, xs, (a3, c3), (a4, c4))) (m.id, 0, 0, 0) false (cells b10 (mfL m (ea, ec) (oa, oc)) 39 :: zD2 l d ev V q cc n :: zB9 d dk :: L)) := hs.arr [2, 3, 4, 5, 6, 7, 8, 1, 9] 10 (by decide); refine zA3 ?_; refine zA3 (zA2 ?_); refine zA rfl (zA1 (v := .int .i64 _) rfl) ?_; refine zA rfl (zD rfl rfl) ?_; refine zA6 ?_; refine zB0 rfl ?_ ?_
       ·
        intro h118; have g118 := of_decide_eq_true h118; refine zA3 ?_; refine zAo zBj hs ?_; intro w tr hK; replace hs := tr _ hs; clear tr; refine zA4 0 rfl rfl (fun w hs => zA7 zCh rfl rfl (hE.cellW hs 113 (by decide) rfl)) hK ?_; refine zA4 1 rfl rfl (fun w hs => zA0 (v := .pointer none) rfl) hK ?_; refine zA4 2 rfl rfl (fun w hs => zA0 (v := zAh ad _) rfl) hK ?_; refine zAt (by kernel_rfl) ?_; clear hK; refine zAc ?_; refine zE4 (v := .pointer none) (v2 := zAh ad _) rfl rfl rfl ?_; exact ⟨_, rfl, Or.inr (Or.inl ⟨by rw [hF0], g118, rfl, hs.suffix 7 rfl⟩)⟩
       ·
        intro h118; have g118 := of_decide_eq_false h118; refine zAd ?_; refine zA3 (zA2 ?_); refine zA rfl (zA1 (v := .pointer (some _)) rfl) ?_; refine zAb rfl en50 (jread_sl hE.uJ (hs.arr [8, 0, 1, 2, 3, 4, 5, 6, 7] 9 (by decide)) hj) ?_; clear hs; rintro _ w ⟨rfl, hs⟩; refine zA rfl (zA1 (v := .tuple _) rfl) ?_; refine zA rfl (zAa (v := .agg _) rfl rfl) ?_; refine zA rfl (zAa (v := .bool _) rfl rfl) ?_; refine zA rfl (zAa (v := zAh ad _) rfl rfl) ?_; refine zBm hs rfl ze103 ?_; clear hs; intro b21 w hs
        try simp only [zzs, zzz] at hs
        refine zAp hs 0 rfl rfl rfl zDx rfl rfl ?_; clear hs; intro w hs
        try simp only [zzs, zzz] at hs
        refine zA rfl (zA0 (v := .bool _) rfl) ?_; refine zA rfl (zA0 (v := zAh ad _) rfl) ?_; refine zA6 ?_; replace hs : Mem g w (cells b21 (s4V (z1, z2, z3, z4)) 103 :: ucO b52 (upTo d l c E m s1 s2 (k, xs, (a3, c3), (a4, c4))) (m.id, 0, 0, 0) false (cells b10 (mfL m (ea, ec) (oa, oc)) 39 :: zD2 l d ev V q cc n :: zB9 d dk :: L)) := hs.arr [0, 2, 3, 4, 5, 6, 7, 8, 9, 1] 10 (by decide); refine zA3 ?_; refine zA3 (zA2 ?_); refine zA rfl (zA1 (v := zAh ad _) rfl) ?_; refine zA rfl (zAu (ad := ad) rfl) ?_; refine zA6 ?_; refine zB4 rfl (rfl) ?_; refine zAd ?_; refine zA3 ?_; refine zA3 (zA2 ?_); refine zA rfl (zA1 (v := .bool _) rfl) ?_; refine zA rfl (zA1 (v := .bool _) rfl) ?_
        refine zB3 (t := _) (d := 130) rfl ?_ ?_
        ·
         intro h124; refine zAk rfl rfl h124 ?_; refine zA rfl (zA5 (o' := 0) zD4 rfl sz3 rfl rfl rfl) ?_; refine zAk rfl rfl h124 ?_; refine zA rfl (zA7 uz3 rfl rfl (hs.cellAt 0 rfl rfl)) ?_; refine zAk rfl rfl h124 ?_; refine zA rfl (zA5 (o' := 0) zCe rfl sz3 rfl rfl rfl) ?_; refine zAk rfl rfl h124 ?_; refine zA rfl (zA7 uz3 rfl rfl (hs.cellAt 7 rfl rfl)) ?_; refine zAk rfl rfl h124 ?_; refine zA rfl (zBp rfl rfl) ?_; refine zA rfl (zAm (v := .bool _) rfl h124 rfl) ?_; refine zA rfl (zA1 (v := .bool _) rfl) ?_; refine zB3 (t := _) (d := 137) rfl ?_ ?_
         ·
          intro h135; have g135 := of_decide_eq_true h135; refine zAk rfl rfl h135 ?_; refine zA rfl (zA1 (v := .int .i64 _) rfl) ?_; refine zAk rfl rfl h135 ?_; refine zA rfl (zBp rfl rfl) ?_; refine zA rfl (zAm (v := .bool _) rfl h135 rfl) ?_; refine zA rfl (zA1 (v := .bool _) rfl) ?_; refine zB3 (t := _) (d := 141) rfl ?_ ?_
          ·
           intro h139; have g139 := of_decide_eq_true h139; refine zAk rfl rfl h139 ?_; refine zA rfl (zA1 (v := .pointer (some _)) rfl) ?_; refine zAk rfl rfl h139 ?_; refine zA rfl (zB7 hs 0 rfl zD4 zDx rfl) ?_; refine zAk rfl rfl h139 ?_; refine zAb rfl en51 (fits_sl (t := (upTo d l c E m s1 s2 (k, xs, (a3, c3), (a4, c4)))) (z := (z1, z2, z3, z4)) (hs.arr [1, 2, 3, 4, 5, 6, 0, 7, 8, 9] 10 (by decide)) (show m.obs.length = xs.length by omega) hz) ?_; clear hs; rintro _ w ⟨rfl, hs⟩; refine zA rfl (zAm (v := .bool _) rfl h139 rfl) ?_; refine zA6 ?_; refine zB0 rfl ?_ ?_
           ·
            intro h144; refine zA2 ?_; refine zA rfl (zA1 (v := .pointer (some _)) rfl) ?_; refine zA rfl (zB7 hs 6 rfl zD4 zDx rfl) ?_; refine zA rfl (zA8 rfl) ?_; refine zA rfl (zA5 (o' := 11) zD1 rfl zDx rfl rfl rfl) ?_; refine lw_storeMid hs 0 (upL (upTo d l c E m s1 s2 (k, xs, (a3, c3), (a4, c4))) (z1, z2, z3, z4) false) rfl rfl rfl zDx rfl rfl rfl ?_; clear hs; intro w hs
            try simp only [zzs, zzz] at hs
            refine zA6 (zA3 (zA2 ?_)); refine zA rfl (zA1 (v := .pointer (some _)) rfl) ?_; refine zA rfl (zA0 (v := .pointer (some _)) rfl) ?_; refine zA rfl (zA0 (v := .nilIface) rfl) ?_; refine zA6 ?_; refine zAc ?_; refine zE4 (v := .pointer (some _)) (v2 := .nilIface) rfl rfl rfl ?_; exact ⟨_, rfl, Or.inr (Or.inr ⟨by rw [hF0], by omega, b52, s1, s2, xs, (a3, c3), (a4, c4), rfl, hxs2, by rw [if_pos ⟨h124, g135, g139, by rw [← hxs2]; exact h144⟩]; exact Mem.closeUp (hs.arr [0, 1, 2, 3, 4, 5, 8, 9] 10 (by decide))⟩)⟩
           ·
            intro h144; refine zAd ?_; refine zA3 (zA2 ?_); refine zA rfl (zA1 (v := .pointer (some _)) rfl) ?_; refine zA rfl (zA0 (v := .pointer (some _)) rfl) ?_; refine zA rfl (zA0 (v := .nilIface) rfl) ?_; refine zA6 ?_; refine zAc ?_; refine zE4 (v := .pointer (some _)) (v2 := .nilIface) rfl rfl rfl ?_; exact ⟨_, rfl, Or.inr (Or.inr ⟨by rw [hF0], by omega, b52, s1, s2, xs, (a3, c3), (a4, c4), rfl, hxs2, by rw [if_neg (fun h => absurd ((show fitsB E (xs.map (·.1)) (z1, z2, z3, z4) = true from by rw [hxs2]; exact h.2.2.2).symm.trans h144) (by decide))]; exact Mem.closeUp (hs.arr [0, 1, 2, 3, 4, 5, 8, 9] 10 (by decide))⟩)⟩
          ·
           intro h139; have g139 := of_decide_eq_false h139; refine zA9 rfl rfl rfl h139 ?_; refine zA9 rfl rfl rfl h139 ?_; refine zA9 rfl rfl rfl h139 ?_; refine zA rfl (zAi (v := .bool _) rfl h139 rfl) ?_; refine zA6 ?_; refine zB4 rfl rfl ?_; refine zAd ?_; refine zA3 (zA2 ?_); refine zA rfl (zA1 (v := .pointer (some _)) rfl) ?_; refine zA rfl (zA0 (v := .pointer (some _)) rfl) ?_; refine zA rfl (zA0 (v := .nilIface) rfl) ?_; refine zA6 ?_; refine zAc ?_; refine zE4 (v := .pointer (some _)) (v2 := .nilIface) rfl rfl rfl ?_
           exact ⟨_, rfl, Or.inr (Or.inr ⟨by rw [hF0], by omega, b52, s1, s2, xs, (a3, c3), (a4, c4), rfl, hxs2, by rw [if_neg (fun h => g139 h.2.2.1)]; exact Mem.closeUp (hs.arr [1, 2, 3, 4, 5, 6, 8, 9] 10 (by decide))⟩)⟩
         ·
          intro h135; have g135 := of_decide_eq_false h135; refine zA9 rfl rfl rfl h135 ?_; refine zA9 rfl rfl rfl h135 ?_; refine zA rfl (zAi (v := .bool _) rfl h135 rfl) ?_; refine zA rfl (zA1 (v := .bool _) rfl) ?_; refine zA9 rfl rfl rfl rfl ?_; refine zA9 rfl rfl rfl rfl ?_; refine zA9 rfl rfl rfl rfl ?_; refine zA rfl (zAi (v := .bool _) rfl rfl rfl) ?_; refine zA6 ?_; refine zB4 rfl rfl ?_; refine zAd ?_; refine zA3 (zA2 ?_); refine zA rfl (zA1 (v := .pointer (some _)) rfl) ?_; refine zA rfl (zA0 (v := .pointer (some _)) rfl) ?_; refine zA rfl (zA0 (v := .nilIface) rfl) ?_; refine zA6 ?_; refine zAc ?_; refine zE4 (v := .pointer (some _)) (v2 := .nilIface) rfl rfl rfl ?_
          exact ⟨_, rfl, Or.inr (Or.inr ⟨by rw [hF0], by omega, b52, s1, s2, xs, (a3, c3), (a4, c4), rfl, hxs2, by rw [if_neg (fun h => g135 h.2.1)]; exact Mem.closeUp (hs.arr [1, 2, 3, 4, 5, 6, 8, 9] 10 (by decide))⟩)⟩
        ·
         intro h124; refine zA9 rfl rfl rfl h124 ?_; refine zA9 rfl rfl rfl h124 ?_; refine zA9 rfl rfl rfl h124 ?_; refine zA9 rfl rfl rfl h124 ?_; refine zA9 rfl rfl rfl h124 ?_; refine zA rfl (zAi (v := .bool _) rfl h124 rfl) ?_; refine zA rfl (zA1 (v := .bool _) rfl) ?_; refine zA9 rfl rfl rfl rfl ?_; refine zA9 rfl rfl rfl rfl ?_; refine zA rfl (zAi (v := .bool _) rfl rfl rfl) ?_; refine zA rfl (zA1 (v := .bool _) rfl) ?_; refine zA9 rfl rfl rfl rfl ?_; refine zA9 rfl rfl rfl rfl ?_; refine zA9 rfl rfl rfl rfl ?_; refine zA rfl (zAi (v := .bool _) rfl rfl rfl) ?_; refine zA6 ?_; refine zB4 rfl rfl ?_; refine zAd ?_; refine zA3 (zA2 ?_)
         refine zA rfl (zA1 (v := .pointer (some _)) rfl) ?_; refine zA rfl (zA0 (v := .pointer (some _)) rfl) ?_; refine zA rfl (zA0 (v := .nilIface) rfl) ?_; refine zA6 ?_; refine zAc ?_; refine zE4 (v := .pointer (some _)) (v2 := .nilIface) rfl rfl rfl ?_; exact ⟨_, rfl, Or.inr (Or.inr ⟨by rw [hF0], by omega, b52, s1, s2, xs, (a3, c3), (a4, c4), rfl, hxs2, by rw [if_neg (fun h => by have h2 : is = false := h124; rw [h2] at h; exact absurd h.1 (by decide))]; exact Mem.closeUp (hs.arr [1, 2, 3, 4, 5, 6, 8, 9] 10 (by decide))⟩)⟩
end
section
open Go.RowKit
attribute [local irreducible] zAh
variable {g w : World} {L M : List HP} {ad : Nat → Addr} {p : Nat}
def mkM (id base : Nat) (fin : Int) (l : List Pr) : Mf := ⟨id, base, fin, 0, l, [(zCd id zE5 base, 0, 0), (zCd id zD7 base, 0, 0)]⟩
end
section
open Go.RowKit
attribute [local irreducible] zAh
variable {g w : World} {L M : List HP} {ad : Nat → Addr} {p : Nat} {V : Vw}
theorem aget_last {V : Vw} {id : Int} {a : Itm} (h : zAw V id = none) : zAw (V ++ [(id, a)]) id = some a := by rw [← al_end h, zB2]
theorem aput_last {V : Vw} {id : Int} {a b : Itm} (h : zAw V id = none) : zBx (V ++ [(id, a)]) id b = V ++ [(id, b)] := by
  rw [zBa] at h
  induction V with
  | nil => simp [zBx]
  | cons x l ih =>
    obtain ⟨k, v⟩ := x; simp only [zAg, List.map_cons, List.mem_cons, not_or] at h; simp only [List.cons_append, zBx]; rw [if_neg (fun e => h.1 e.symm), ih h.2]
theorem Vw.apply_first {x : Mf} (hx : (mfF x).1 = 0) (h : zAw V x.id = none) (hl : V.length < 4096) : V.apply 1 x = ((0, none), V ++ [(x.id, ⟨1, x⟩)]) := by
  rw [Vw.apply_new hx (by omega) (by simp [Vw.state, h, nextB]) h, if_neg (by omega), al_end h]
theorem Vw.apply_last {x : Mf} {s k : Int} (hx : (mfF x).1 = 0) (h : zAw V x.id = none) (hn : nextB s k = true) : Vw.apply (V ++ [(x.id, ⟨s, x⟩)]) k x = ((0, none), V ++ [(x.id, ⟨k, x⟩)]) := by
  have hk := nextB_kind hn; rw [Vw.apply_old hx (by omega) (by simp [Vw.state, aget_last h, hn]) (aget_last h), if_pos rfl, aput_last h]
def stN (l : List Int) (id : Nat) : Nat := match l[id]? with | some z => (z % (5 : Nat)).toNat | none => 0
def madeV (l : List Int) (n : Nat) : Vw := (List.range n).filterMap fun id => if stN l id = 0 then none else some ((id : Int), ⟨(stN l id : Nat), oneM id (10 * id)⟩)
end
section
open Go.RowKit
attribute [local irreducible] zAh eV
variable {g w : World} {L M : List HP} {ad : Nat → Addr} {p u n q c d l : Nat} {dk : Dk} {st : St} {t : UpT} {a : S4} {ov : Bool} {V V0 V1 V2 : Vw} {osb K : List (ByteArray × List UInt8)} {cl : Bool}
def UgN (B R F : Nat) (j : Nat) (V : Vw) (q c n : Nat) (dk : Dk) : Prop := q = j ∧ c = j ∧ n = j * F ∧ dk.armed = 0 ∧ dk.room = R ∧ ∃ f mb, RawI UpN B f dk ∧ f mtN = some mb ∧ mb.length = n
theorem lgN (hM : ErrM ad g) {B R F : Nat} (hF : (mfB t.m).length + 17 = F) (h2 : 2 * F ≤ B) (hB : 60 ≤ B ∧ B ≤ 200000) (hR : 7 * B ≤ R) (hm : (mfF t.m).1 = 0) (hob : t.m.obs.length ≤ 1000000) (hsu : ∀ o ∈ t.m.obs, o.2.2 < 4294967296) :
    LgC ad g t (UgN B R F) [] [(t.m.id, ⟨1, t.m⟩)] [(t.m.id, ⟨2, t.m⟩)] := by
  have e1 : Vw.apply [] 1 t.m = ((0, none), [(t.m.id, ⟨1, t.m⟩)]) := Vw.apply_first hm rfl (by decide); have e2 : Vw.apply [(t.m.id, ⟨1, t.m⟩)] 2 t.m = ((0, none), [(t.m.id, ⟨2, t.m⟩)]) := Vw.apply_last (V := []) (s := 1) (k := 2) hm rfl rfl
  have h3 : 2 * UpN.length * B + B ≤ R := by show 2 * 3 * B + B ≤ R; omega
  have key : ∀ {j : Nat} {V V1 : Vw} {k : Int} {q c n : Nat} {dk : Dk} {w : World} {M : List HP}, j ≤ 1 → V.apply k t.m = ((0, none), V1) → UgN B R F j V q c n dk → dk.calls < 700000 → Mem g w (zD2 t.l t.d 3 V q c n :: zB9 t.d dk :: M) → MfR g M t.m t.s1 t.s2 → Calls Tryz.prog 52 #[.pointer (some ⟨t.l, 0, none⟩), .agg (.int .i64 k :: mfL t.m t.s1 t.s2).toArray] w (Ret fun v w' => ∃ kr dk2 V' q' c' n', v = zAh ad kr ∧ (kr = 0 ∧ V' = V1 ∧ UgN B R F (j + 1) V1 q' c' n' dk2 ∧ dk2.calls ≤ dk.calls + 40) ∧ Mem g w' (zD2 t.l t.d 3 V' q' c' n' :: zB9 t.d dk2 :: M)) := by
    intro j V V1 k q c n dk w M hj hap hl hcl hs hmr; obtain ⟨rfl, rfl, hn, ha, hr, f, mb, hI, hf, hmb⟩ := hl
    have hjF : c * F ≤ F := by
      rcases (show c = 0 ∨ c = 1 by omega) with rfl | rfl
      · simp
      · simp
    refine (appN_sl hM hs hI up_mt hB.2 hf hmb.symm (by omega) (by rw [hr]; exact h3) (by omega) (by omega) (by decide) (by rw [frame_len, hF]; omega) hmr hob hsu (by rw [hap])).mono ?_; rintro _ w' ⟨v, rfl, kr, dk2, V', q', c', n', rfl, ⟨r1, r2, ⟨rfl, _, r3, rfl, rfl, rfl, rfl, r4⟩ | ⟨_, _, r3, _⟩⟩, hs⟩
    · refine ⟨_, rfl, 0, dk2, _, _, _, _, rfl, ⟨rfl, by rw [hap], ⟨rfl, rfl, by rw [frame_len, hF, hmb, hn, Nat.add_mul, Nat.one_mul], r3 ha, by rw [r1, hr], _, _, r4, zFg _ _ _, by rw [List.length_append]⟩, by omega⟩, hs⟩
    · exact absurd ha r3
  refine ⟨fun hl hc hs hm => key (by omega) e1 hl hc hs hm, fun hl hc hs hm => key (by omega) e2 hl hc hs hm, fun {q c n dk s} hl h4 => ?_, fun {q c n dk} hl => ?_, rfl, by simp [Vw.state, zAw], by simp [Vw.state, zAw]⟩
  · obtain ⟨r1, r2, hn, ha, hr, f, mb, hI, hf, hmb⟩ := hl
    obtain ⟨k, e, h5, h6, h7, ⟨rfl, _, h8, h9⟩ | ⟨_, _, h8, _⟩⟩ := hI.jput up_up upN_new h4 hB.1 (by rw [hr]; exact h3)
    · exact ⟨e, h5, by omega, fun he => ⟨r1, r2, hn, h8 ha, by rw [h6, hr], _, mb, h9 he, by rw [zG5 _ _ mt_up]; exact hf, hmb⟩⟩
    · exact absurd ha h8
  · obtain ⟨r1, r2, hn, ha, hr, f, mb, hI, hf, hmb⟩ := hl
    obtain ⟨e, h5, h6, h7, h8, h9⟩ := hI.jgone ha up_up; exact ⟨e, h5, by omega, fun he => ⟨⟨r1, r2, hn, h8, by rw [h6, hr], _, mb, h9 he, by rw [clrF_other mt_up]; exact hf, hmb⟩, ⟨_, _, h9 he, clrF_same _⟩⟩⟩
theorem UgN.zero {B R F : Nat} {f : ByteArray → Option (List UInt8)} (hI : RawI UpN B (zFj f mtN []) dk) (ha : dk.armed = 0) (hr : dk.room = R) : UgN B R F 0 [] 0 0 0 dk := ⟨rfl, rfl, by simp, ha, hr, _, [], hI, zFg _ _ _, rfl⟩
theorem NewR.fine {each : Int} {m : Mf} {bs : List (List UInt8)} {is : Bool} {z : S4} {R : List HP} {v : Value} {w' : World} (h : NewR ad g each m bs V d l c is z R v w') (h0 : (upF each m bs).1 = 0) (h1 : V.state m.id < 2) (h2 : is = false ∨ z.1 ≠ m.id ∨ V.state m.id ≠ 1) :
    ∃ u s1 s2 xs s3 s4, v = .tuple #[.pointer (some ⟨u, 0, none⟩), .nilIface] ∧ xs.map (·.1) = bs ∧ Mem g w' (UpC u ⟨d, l, c, m, s1, s2, each.toNat, xs, s3, s4⟩ (m.id, 0, 0, 0) false :: R) := by
  rcases h with ⟨h, _⟩ | ⟨_, h, _⟩ | ⟨_, _, u, s1, s2, xs, s3, s4, h3, h4, hs⟩
  · exact absurd h0 h
  · omega
  · rw [if_neg (by rintro ⟨g1, g2, g3, _⟩; rcases h2 with h2 | h2 | h2; rw [h2] at g1; cases g1; exact h2 g2; exact h2 g3)] at hs
    exact ⟨u, s1, s2, xs, s3, s4, h3, h4, hs⟩
def osM (m : Mf) (bs : List (List UInt8)) : List (ByteArray × List UInt8) := (m.obs.zip bs).map fun p => (p.1.1, p.2)
theorem osU_eq {xs : List (List UInt8 × SA)} {bs : List (List UInt8)} (h : t.xs.map (·.1) = bs) : osU t = osM t.m bs := by
  subst h
  unfold osU osM
  generalize t.m.obs = os; generalize t.xs = xs
  induction os generalizing xs with
  | nil => simp
  | cons o os ih => cases xs with
    | nil => simp
    | cons x xs => simp [ih]
theorem upOk_mk {each : Int} {bs : List (List UInt8)} {m : Mf} {s1 s2 s3 s4 : SA} {xs : List (List UInt8 × SA)} (h1 : 1 ≤ each ∧ each ≤ 1000) (hxs : xs.map (·.1) = bs) (hl : m.obs.length = bs.length) (h2 : bs.length ≤ 2) (hO : OsF osb) (hs : ∀ o ∈ osM m bs, o ∈ osb) (hid : 0 ≤ m.id ∧ m.id ≤ 2147483647) :
    UpOk osb ⟨d, l, c, m, s1, s2, each.toNat, xs, s3, s4⟩ := by
  have h3 : xs.length = bs.length := by rw [← hxs, List.length_map]
  exact ⟨⟨by simp only; omega, by simp only; omega⟩, by simp only; omega, by simp only; omega, hO, by rw [osU_eq (xs := xs) (bs := bs) hxs]; exact hs, hid⟩
theorem StI.start {Lg : Nat → Vw → Nat → Nat → Nat → Dk → Prop} (hp : PIn osb K st) (hcl : cl = true → st.script = [] ∧ st.ups = []) (hL : Lg 0 V0 q c n dk) : StI osb K t cl Lg V0 V1 V2 0 (t.m.id, 0, 0, 0) false V0 q c n dk st (restM t.each (osU t) + 2) := ⟨rfl, hL, .inl ⟨rfl, rfl, rfl, hp, hcl, rfl⟩⟩
theorem StI.zero {Lg : Nat → Vw → Nat → Nat → Nat → Dk → Prop} {s M0 : Nat} (h : StI osb K t cl Lg V0 V1 V2 s a ov V q c n dk st M0) : s = 2 ↔ M0 = 0 := by
  obtain ⟨_, _, ⟨rfl, _, _, _, _, rfl⟩ | ⟨rfl, _, _, _, rfl⟩ | ⟨rfl, _, _, _, _, rfl, _⟩⟩ := h
  · constructor <;> intro h <;> omega
  · constructor <;> intro h <;> omega
  · exact ⟨fun _ => rfl, fun _ => rfl⟩
theorem StI.done {Lg : Nat → Vw → Nat → Nat → Nat → Dk → Prop} {M0 : Nat} (h : StI osb K t cl Lg V0 V1 V2 2 a ov V q c n dk st M0) : V = V2 ∧ Lg 2 V2 q c n dk ∧ PIn osb (K ++ osU t) st ∧ (∀ o ∈ osU t, zAw st.objs o.1 = some o.2) ∧ (cl = true → st.ups = []) := by
  obtain ⟨hV, hl, ⟨h, _⟩ | ⟨h, _⟩ | ⟨_, _, h1, h2, h3, _⟩⟩ := h
  · cases h
  · cases h
  · have hV : V = V2 := hV
    subst hV; exact ⟨rfl, hl, h1, h2, fun hc => (h3 hc).2⟩
theorem StI.gone {Lg : Nat → Vw → Nat → Nat → Nat → Dk → Prop} {M0 : Nat} (h : StI osb K t cl Lg V0 V1 V2 2 a ov V q c n dk st M0) : GoneJ dk := by
  obtain ⟨hV, hl, ⟨h, _⟩ | ⟨h, _⟩ | ⟨_, _, _, _, _, _, h⟩⟩ := h
  · cases h
  · cases h
  · exact h
theorem StI.state {Lg : Nat → Vw → Nat → Nat → Nat → Dk → Prop} {s M0 : Nat} (hL : LgC ad g t Lg V0 V1 V2) (h : StI osb K t cl Lg V0 V1 V2 s a ov V q c n dk st M0) : V.state t.m.id = s ∧ s ≤ 2 := by
  obtain ⟨rfl, _, ⟨rfl, _⟩ | ⟨rfl, _⟩ | ⟨rfl, _⟩⟩ := h
  · exact ⟨hL.s0, by omega⟩
  · exact ⟨hL.s1, by omega⟩
  · exact ⟨hL.s2, by omega⟩
theorem obG_fine {each : Int} {o : Ob} {b : List UInt8} (h1 : 1 ≤ each ∧ each ≤ 1000) (hb : b.length ≤ 256) (hv : zBq o.1.data.toList = true) (hl : o.2.1 = (b.length : Nat)) (hc : o.2.2 = zBz 0 b) : obG each o b = 0 := by
  have hck : obCk o b = 0 := by rw [obCk, if_neg (by rw [hl]; exact fun h => h rfl), if_neg (by rw [hc]; exact fun h => h rfl)]
  have hP := zCt (n := b.length) (e := each.toNat) (by omega); rw [obG, if_neg (by rw [hck]; exact fun h => h rfl), mkR, if_neg (by rw [hv]; decide), if_neg (by omega), if_neg (by omega)]
theorem upF_two {each : Int} {m : Mf} {o1 o2 : Ob} {b1 b2 : List UInt8} (h1 : 1 ≤ each ∧ each ≤ 1000) (hm : (mfF m).1 = 0) (ho : m.obs = [o1, o2]) (g1 : obG each o1 b1 = 0) (g2 : obG each o2 b2 = 0) : (upF each m [b1, b2]).1 = 0 := by
  rw [upF, if_neg (by omega), if_neg (by rw [hm]; exact fun h => h rfl), if_neg (by rw [ho]; exact fun h => h rfl), ho]
  simp [upG, g1, g2]
end
section
open Go.RowKit
attribute [local irreducible] zAh eV
variable {g w : World} {L M : List HP} {ad : Nat → Addr} {p : Nat} {dk : Dk} {st : St} {f : ByteArray → Option (List UInt8)}
def mkG (id base : Nat) (fin time : Int) (l : List Pr) (x y : List UInt8) : Mf := ⟨id, base, fin, time, l, [(zCd id zE5 base, (x.length : Nat), zBz 0 x), (zCd id zD7 base, (y.length : Nat), zBz 0 y)]⟩
theorem obBad_len {n : ByteArray} {k c : Nat} (hk : k ≤ 1000) : zCz (n, (k : Int), c) = zCz (n, 0, 0) := by
  unfold zCz
  simp only
  split
  · rfl
  · rw [if_neg (by omega), if_neg (by omega)]
theorem obF_two {n1 n2 : ByteArray} {k1 k2 c1 c2 : Nat} (h : obF [(n1, 0, 0), (n2, 0, 0)] = (0, none)) (h1 : k1 ≤ 1000) (h2 : k2 ≤ 1000) : obF [(n1, (k1 : Int), c1), (n2, (k2 : Int), c2)] = (0, none) := by
  have b1 : zCz (n1, 0, 0) = 0 := Decidable.byContradiction fun hb => by
    rw [obF_bad (i := 0) (by simp) rfl hb (fun j hj => by omega)] at h; exact hb (congrArg Prod.fst h)
  have b2 : zCz (n2, 0, 0) = 0 := Decidable.byContradiction fun hb => by
    rw [obF_bad (i := 1) (by simp) rfl hb (fun j hj u hu => by
      have : j = 0 := by omega
      subst this
      cases hu
      exact b1)] at h
    exact hb (congrArg Prod.fst h)
  rw [obF_fine (by simp) (fun j u hu => by
    match j, hu with
    | 0, hu => cases hu; exact b1
    | 1, hu => cases hu; exact b2)] at h
  rw [obF_fine (by simp) (fun j u hu => by
    match j, hu with
    | 0, hu => cases hu; rw [obBad_len h1]; exact b1
    | 1, hu => cases hu; rw [obBad_len h2]; exact b2)]
  exact h
theorem mkG_F {id base : Nat} {fin time : Int} {l : List Pr} {x y : List UInt8} (h0 : mfF ⟨id, base, fin, time, l, [(zCd id zE5 base, 0, 0), (zCd id zD7 base, 0, 0)]⟩ = (0, none)) (hx : x.length ≤ 1000) (hy : y.length ≤ 1000) : mfF (mkG id base fin time l x y) = (0, none) := by
  unfold mfF at h0 ⊢
  have e1 : zBe (mkG id base fin time l x y) = zBe ⟨id, base, fin, time, l, [(zCd id zE5 base, 0, 0), (zCd id zD7 base, 0, 0)]⟩ := rfl; have e2 : zD6 (mkG id base fin time l x y) = zD6 ⟨id, base, fin, time, l, [(zCd id zE5 base, 0, 0), (zCd id zD7 base, 0, 0)]⟩ := rfl; have e3 : (mkG id base fin time l x y).eps = l := rfl; rw [e1, e2, e3]
  split at h0
  · cases h0
  · rename_i g1
    rw [if_neg g1]
    split at h0
    · rename_i g2; exact absurd (congrArg Prod.fst h0) g2
    · rename_i g2
      rw [if_neg g2]
      split at h0
      · cases h0
      · rename_i g3
        rw [if_neg g3]; exact obF_two h0 hx hy
set_option maxRecDepth 100000 in
set_option maxHeartbeats 2000000 in
theorem makeG_sl (hs : Mem g w L) {id base : Nat} {fin time : Int} {a a1 a2 : Option Addr} {n c c1 c2 : Nat} {l : List Pr} {x y : List UInt8} (hr : RdK g L 2 (.slice a n c) (l.map prL)) (hn : n = l.length) (hlen : 1 ≤ l.length ∧ l.length ≤ 1000000) (hx : Rd g L (.slice a1 x.length c1) (zAj x)) (hy : Rd g L (.slice a2 y.length c2) (zAj y)) (hxl : x.length ≤ 1000) (hyl : y.length ≤ 1000) (hid : id ≤ 2147483647) (hb : base ≤ 1099511627776) (hF : mfF (mkG id base fin time l x y) = (0, none)) :
    Calls Tryz.prog 14 #[.int .i64 id, .int .i64 base, .int .i64 fin, .int .i64 time, .slice a n c, .slice a1 x.length c1, .slice a2 y.length c2] w (Ret fun v w' => ∃ s1 s2 : SA, v = .tuple #[.agg (mfL (mkG id base fin time l x y) s1 s2).toArray, fltV (0, none)] ∧ Mem g w' (mfP (mkG id base fin time l x y) s1 s2 ++ L)) := by
  subst hn; refine zAf Tryz.func14 rfl rfl ?_
  skip
  refine zA3 (zA2 ?_); refine zBm hs rfl ze39 ?_; clear hs; intro b14 w hs
  try simp only [zzs, zzz] at hs
  refine zBm hs rfl ze42 ?_; clear hs; intro b15 w hs
  try simp only [zzs, zzz] at hs
  refine zA6 (zA3 (zA2 ?_)); refine zA rfl (zA1 (v := .int .i64 _) rfl) ?_; refine zA rfl (zA1 (v := .int .i64 _) rfl) ?_; refine zA rfl (zA1 (v := .int .i64 _) rfl) ?_; refine zA rfl (zA1 (v := .int .i64 _) rfl) ?_; refine zA rfl (zA1 (v := .slice _ _ _) rfl) ?_; refine zAb rfl en42 (copyPr_sl hs hr.cons.cons rfl hlen) ?_; clear hs; rintro _ w ⟨s1, rfl, hs⟩; refine zA rfl (zBu (cs := [.int .i64 id, .int .i64 base, .int .i64 fin, .int .i64 time, .slice s1.1 l.length s1.2, .slice none 0 0]) zCe ze39 pl39 rfl) ?_; refine zBm hs rfl ze39 ?_; clear hs; intro b16 w hs
  try simp only [zzs, zzz] at hs
  refine zAp hs 0 rfl rfl rfl zEe rfl rfl ?_; clear hs; intro w hs
  try simp only [zzs, zzz] at hs
  refine zA6 (zA3 (zA2 ?_)); refine zA rfl (zA1 (v := .int .i64 _) rfl) ?_; refine zA rfl (zA1 (v := .int .i64 _) rfl) ?_; refine zAb rfl en43 (objNm_sl hs id base zE5 hid hb (by decide) (by decide)) ?_; clear hs; rintro _ w ⟨rfl, hs⟩; refine zA rfl (zA1 (v := .slice _ _ _) rfl) ?_; refine zA rfl (zAx zCi rfl) ?_; refine zA rfl (zA1 (v := .slice _ _ _) rfl) ?_; refine zAb rfl en44 (hs.callsE (refSum_any (w := w) (b := .slice a1 x.length c1) (l := x) ((hx.cons.cons.cons.cons).seq hs) (by omega))) ?_; clear hs; rintro _ w ⟨rfl, hs⟩
  refine zA rfl (zC2 ([.string (zCd id zE5 base), .int .i64 ((x.length : Nat) : Int), .int .u32 ((zBz 0 x : Nat) : Int)]) uz66 ze66 pl66 rfl (by simp [Value.cells]) rfl rfl) ?_; refine zA rfl (zA1 (v := .int .i64 _) rfl) ?_; refine zA rfl (zA1 (v := .int .i64 _) rfl) ?_; refine zAb rfl en43 (objNm_sl hs id base zD7 hid hb (by decide) (by decide)) ?_; clear hs; rintro _ w ⟨rfl, hs⟩; refine zA rfl (zA1 (v := .slice _ _ _) rfl) ?_; refine zA rfl (zAx zCi rfl) ?_; refine zA rfl (zA1 (v := .slice _ _ _) rfl) ?_; refine zAb rfl en44 (hs.callsE (refSum_any (w := w) (b := .slice a2 y.length c2) (l := y) ((hy.cons.cons.cons.cons).seq hs) (by omega))) ?_; clear hs; rintro _ w ⟨rfl, hs⟩
  refine zA rfl (zC2 ([.string (zCd id zD7 base), .int .i64 ((y.length : Nat) : Int), .int .u32 ((zBz 0 y : Nat) : Int)]) uz66 ze66 pl66 rfl (by simp [Value.cells]) rfl rfl) ?_; refine lw_build2 hs rfl (r1 := obL (zCd id zE5 base, (x.length : Nat), zBz 0 x)) (r2 := obL (zCd id zD7 base, (y.length : Nat), zBz 0 y)) zDw zsOb rfl rfl (fill_ob _ _ _ _ _ _) (by decide) (by decide) ?_; clear hs; intro b41 w hs; replace hs := hs.asRows 0 rfl (m := 2) (k := 3) (rows := [obL (zCd id zE5 base, (x.length : Nat), zBz 0 x), obL (zCd id zD7 base, (y.length : Nat), zBz 0 y)]) rfl rfl (obL_rows [(zCd id zE5 base, (x.length : Nat), zBz 0 x), (zCd id zD7 base, (y.length : Nat), zBz 0 y)])
  simp only [List.set_cons_zero] at hs; refine zA rfl (zA5 (o' := 5) zCe rfl sz37 rfl rfl rfl) ?_; refine zB1 (v := .slice _ _ _) hs 1 rfl sz37 rfl rfl rfl rfl ?_; clear hs; intro w hs
  try simp only [zzs, zzz] at hs
  refine zA6 (zA3 (zA2 ?_)); refine zA rfl (zB7 hs 1 rfl zCe zEe rfl) ?_; refine zAb rfl en23 (rManifest_sl (m := mkG id base fin time l x y) (e := s1) (o := (some ⟨b41, 0, none⟩, 2)) hs (MfR.own 2 0 rfl rfl) (by simp [mkG])) ?_; clear hs; rintro _ w ⟨rfl, hs⟩; rw [hF]; refine zBm hs rfl ze42 ?_; clear hs; intro b17 w hs
  try simp only [zzs, zzz] at hs
  refine zAp hs 0 rfl rfl rfl zFv rfl rfl ?_; clear hs; intro w hs
  try simp only [zzs, zzz] at hs
  refine zA6 ?_; refine zA3 ?_; refine zA3 (zA2 ?_); refine zA rfl (zA5 (o' := 0) uz42 rfl sz3 rfl rfl rfl) ?_; refine zA rfl (zA7 uz3 rfl rfl (hs.cellAt 0 rfl rfl)) ?_; refine zA rfl (zDv rfl rfl) ?_; refine zA6 ?_; refine zB4 rfl (rfl) ?_; refine zAd ?_; refine zA3 ?_; refine zAo zBj ((hs.drop 5).drop 4) ?_; intro w tr hK; replace hs := tr _ hs; clear tr; refine zA4 0 rfl rfl (fun w hs => zB7 hs 2 rfl zCe zEe rfl) hK ?_; refine zAe [1] ?_; refine ⟨⟨_, rfl, ?_⟩, trivial⟩; refine zAb rfl en22 (none_sl hs) ?_; clear hs; rintro _ w ⟨rfl, hs⟩; clear hK; have hK := (hs.drop 5).drop 4; refine zA6 ⟨hK, ?_⟩; refine zAe [2] ?_; refine ⟨⟨_, rfl, ?_⟩, trivial⟩
  refine zAp hs 5 rfl rfl rfl zEe rfl rfl ?_; clear hs; intro w hs
  try simp only [zzs, zzz] at hs
  clear hK; have hK := (hs.drop 5).drop 4; refine zA6 ⟨hK, ?_⟩; refine zAe [3] ?_; refine ⟨⟨_, rfl, ?_⟩, trivial⟩; refine zAp hs 4 rfl rfl rfl zFv rfl rfl ?_; clear hs; intro w hs
  try simp only [zzs, zzz] at hs
  clear hK; have hK := (hs.drop 5).drop 4; refine zA6 ⟨hK, ?_⟩; refine zAt (by kernel_rfl) ?_; clear hK; refine zAc ?_; refine resG [(.cell 14 39, .agg _), (.cell 15 42, .agg _)] rfl ⟨⟨_, rfl, zC6 hs 5 rfl zCe zEe⟩, ⟨_, rfl, zC6 hs 4 rfl uz42 zFv⟩, trivial⟩ ?_; exact ⟨_, rfl, s1, (some ⟨b41, 0, none⟩, 2), rfl, hs.arr [3, 1] 6 (by decide)⟩
abbrev zBl (id : Nat) (x y : List UInt8) : Mf := mkG id 10 20 5 [(1, 10)] x y
theorem man21_sl (hs : Mem g w L) {id : Nat} (hid : id ≤ 2147483647) {a1 a2 : Option Addr} {c1 c2 : Nat} {x y : List UInt8} (hx : Rd g L (.slice a1 x.length c1) (zAj x)) (hy : Rd g L (.slice a2 y.length c2) (zAj y)) (hxl : x.length ≤ 1000) (hyl : y.length ≤ 1000) (hF : mfF (zBl id x y) = (0, none)) :
    Calls Tryz.prog 13 #[.int .i64 id, .slice a1 x.length c1, .slice a2 y.length c2] w (Ret fun v w' => ∃ s1 s2 : SA, v = .agg (mfL (zBl id x y) s1 s2).toArray ∧ Mem g w' (mfP (zBl id x y) s1 s2 ++ L)) := by
  refine zAf Tryz.func13 rfl rfl ?_
  skip
  refine zA3 (zA2 ?_); refine zBm hs rfl ze39 ?_; clear hs; intro b6 w hs
  try simp only [zzs, zzz] at hs
  refine zA6 (zA3 (zA2 ?_)); refine zA rfl (zA1 (v := .int .i64 _) rfl) ?_; refine zA rfl (zC2 ([.int .i64 1, .int .i64 10]) uz46 ze46 pl46 rfl (by simp [Value.cells]) rfl rfl) ?_; refine zD0 hs rfl (row := prL (1, 10)) zE3 zsPr rfl (fill_pr _ _) (by decide) (by decide) ?_; clear hs; intro b12 w hs; refine zA rfl (zA1 (v := .slice _ _ _) rfl) ?_; refine zA rfl (zA1 (v := .slice _ _ _) rfl) ?_; refine zAb rfl en14 (makeG_sl hs (id := id) (base := 10) (fin := 20) (time := 5) (l := [(1, 10)]) (RdK.one 0 rfl rfl) rfl (by simp) hx.cons.cons hy.cons.cons hxl hyl hid (by omega) hF) ?_; clear hs; rintro _ w ⟨s1, s2, rfl, hs⟩; refine zA rfl (zA1 (v := .tuple _) rfl) ?_
  refine zA rfl (zAa (v := .agg _) rfl rfl) ?_; refine zA rfl (zAa (v := .agg _) rfl rfl) ?_; refine zBm hs rfl ze39 ?_; clear hs; intro b7 w hs
  try simp only [zzs, zzz] at hs
  refine zBm hs rfl ze42 ?_; clear hs; intro b8 w hs
  try simp only [zzs, zzz] at hs
  refine zAp hs 1 rfl rfl rfl zEe rfl rfl ?_; clear hs; intro w hs
  try simp only [zzs, zzz] at hs
  refine zAp hs 0 rfl rfl rfl zFv rfl rfl ?_; clear hs; intro w hs
  try simp only [zzs, zzz] at hs
  refine zA6 (zA3 (zA2 ?_)); refine zA rfl (zB7 hs 1 rfl zCe zEe rfl) ?_; refine zAp hs 5 rfl rfl rfl zEe rfl rfl ?_; clear hs; intro w hs
  try simp only [zzs, zzz] at hs
  refine zA6 ?_; refine zAc ?_; refine resG [(.cell 6 39, .agg _)] rfl ⟨⟨_, rfl, zC6 hs 5 rfl zCe zEe⟩, trivial⟩ ?_; exact ⟨_, rfl, s1, s2, rfl, hs.arr [2, 3] 6 (by decide)⟩
theorem opened_sl (hM : ErrM ad g) (hG : ErrG ad g) (hs : Mem g w (zB9 p dk :: L)) {sp : Nat} {N : List ByteArray} {B : Nat} (hI : RawI N B f dk) (hmt : mtN ∈ N) (hsn : snN ∈ N) (ha : dk.armed = 0) (hcl : dk.calls < 800000) (hfn : f snN = none) (hfm : f mtN = none) {tr : Int} (htr : 1 ≤ tr ∧ tr ≤ 8) :
    Calls Tryz.prog 12 #[.pointer (some ⟨p, 0, none⟩), .pointer (some ⟨sp, 0, none⟩), .int .i64 tr] w (Ret fun v w' => ∃ l c dk2, v = .tuple #[.pointer (some ⟨l, 0, none⟩), .pointer (some ⟨c, 0, none⟩)] ∧ dk2.armed = 0 ∧ dk2.room = dk.room ∧ dk2.calls ≤ dk.calls + 2 ∧ RawI N B (zFj f mtN []) dk2 ∧ Mem g w' (zB8 c sp tr 0 :: zD2 l p 3 [] 0 0 0 :: zB9 p dk2 :: L)) := by
  refine zAf Tryz.func12 rfl rfl ?_
  skip
  refine zA3 (zA2 ?_); refine zA rfl (zA0 (v := .pointer none) rfl) ?_; refine zA rfl (zA0 (v := .pointer none) rfl) ?_; refine zA6 (zA3 (zA2 ?_)); refine zA rfl (zA1 (v := .pointer (some _)) rfl) ?_; refine zAb rfl en40 (openN_sl (ev := 3) hM hs hI hmt hsn ha hcl (by decide) hfn hfm) ?_; clear hs; rintro _ w ⟨l, dk2, rfl, k1, k2, k3, k4, hs⟩; refine zA rfl (zA1 (v := .tuple _) rfl) ?_; refine zA rfl (zAa (v := .pointer (some _)) rfl rfl) ?_; refine zA rfl (zAa (v := .nilIface) rfl rfl) ?_; refine zA rfl (zA0 (v := .pointer (some _)) rfl) ?_; refine zA rfl (zA0 (v := .nilIface) rfl) ?_; refine zA6 (zA3 (zA2 ?_)); refine zA rfl (zA1 (v := .pointer (some _)) rfl) ?_
  refine zA rfl (zA1 (v := .int .i64 _) rfl) ?_; refine zAb rfl en41 (clnew_sl hG hs htr) ?_; clear hs; rintro _ w ⟨c, rfl, hs⟩; refine zA rfl (zA1 (v := .tuple _) rfl) ?_; refine zA rfl (zAa (v := .pointer (some _)) rfl rfl) ?_; refine zA rfl (zAa (v := .nilIface) rfl rfl) ?_; refine zA rfl (zA0 (v := .pointer (some _)) rfl) ?_; refine zA rfl (zA0 (v := .nilIface) rfl) ?_; refine zA6 ?_; refine zA3 ?_; refine zA3 (zA2 ?_); refine zA rfl (zA1 (v := .pointer (some _)) rfl) ?_; refine zA rfl (zDe uz32 rfl rfl) ?_; refine zA rfl (zA1 (v := .bool _) rfl) ?_; refine zAk rfl rfl (rfl) ?_; refine zA rfl (zA1 (v := .pointer (some _)) rfl) ?_; refine zAk rfl rfl (rfl) ?_
  refine zA rfl (zDe uz33 rfl rfl) ?_; refine zA rfl (zAi (v := .bool _) rfl (rfl) rfl) ?_; refine zA rfl (zA1 (v := .bool _) rfl) ?_; refine zAk rfl rfl (rfl) ?_; refine zA rfl (zA1 (v := .nilIface) rfl) ?_; refine zAk rfl rfl (rfl) ?_; refine zA rfl (zC8 rfl) ?_; refine zA rfl (zAi (v := .bool _) rfl (rfl) rfl) ?_; refine zA rfl (zA1 (v := .bool _) rfl) ?_; refine zAk rfl rfl (rfl) ?_; refine zA rfl (zA1 (v := .nilIface) rfl) ?_; refine zAk rfl rfl (rfl) ?_; refine zA rfl (zC8 rfl) ?_; refine zA rfl (zAi (v := .bool _) rfl (rfl) rfl) ?_; refine zA6 ?_; refine zB4 rfl (rfl) ?_; refine zAd ?_; refine zA3 (zA2 ?_); refine zA rfl (zA1 (v := .pointer (some _)) rfl) ?_
  refine zA rfl (zA1 (v := .pointer (some _)) rfl) ?_; refine zA rfl (zA0 (v := .pointer (some _)) rfl) ?_; refine zA rfl (zA0 (v := .pointer (some _)) rfl) ?_; refine zA6 ?_; refine zAc ?_; refine zE4 (v := .pointer (some _)) (v2 := .pointer (some _)) rfl rfl rfl ?_; exact ⟨_, rfl, l, c, dk2, rfl, k1, k2, k3, k4, hs⟩
end
section
open Go.RowKit
def NumPost (b : Nat) (w : World) (e : Ending) (w' : World) : Prop := ∃ r : Nat, r < b ∧ e = .returned (.int .i64 r) ∧ w' = w
def NumLit (b : Int) (w : World) (e : Ending) (w' : World) : Prop := ∃ r : Nat, (r : Int) < b ∧ e = .returned (.int .i64 r) ∧ w' = w
theorem oneU8 (l : List UInt8) {i : Nat} {v : Value} (h : (zAj l)[i]? = some v) : ∃ x, l[i]? = some x ∧ v = .int .u8 x.toNat := by
  simp only [zAj, List.getElem?_map, Option.map_eq_some_iff] at h; obtain ⟨x, hx, rfl⟩ := h; exact ⟨x, hx, rfl⟩
set_option maxRecDepth 100000 in
theorem sameBytes_any {w : World} {a b : Value} {l : List UInt8} (ha : zEg w a (zAj l)) (hb : zEg w b (zAj l)) (hlen : l.length ≤ 1073741824) : Calls Tryz.prog 55 #[a, b] w (BoolNew true w) := by
  have HA := Lib.hid ha; have HB := Lib.hid hb; obtain ⟨aa, an, ac, rfl, hal, ha2⟩ := id ha; obtain ⟨ba, bn, bc, rfl, hbl, hb2⟩ := id hb
  have hal' : an = l.length := by simpa [zAj] using hal
  have hbl' : bn = l.length := by simpa [zAj] using hbl
  clear hal hbl; subst hal'; subst hbl'; clear ha hb ha2 hb2
  go_enter Tryz.func55, Tryz.ntmps55
  go_wp2
  go_loopw [5, 6] (fun i same wr => ∃ k : Nat, k ≤ l.length ∧ i = .int .i64 k ∧ Below w.heap.size w wr) (fun i _ _ => l.length - (intOf i).toNat)
  case atStart => exact ⟨0, Nat.zero_le _, rfl, Below.refl _ _⟩
  case round =>
    obtain ⟨k, hk, rfl, hbel⟩ := hrel; have Hbel := Lib.hid hbel; clear hbel
    by_cases hkl : k < l.length
    · obtain ⟨b1, o1, rfl, lt1, hc1⟩ := HA.out.cell hkl
      obtain ⟨b2, o2, rfl, lt2, hc2⟩ := HB.out.cell hkl
      have hk' : k < (zAj l).length := by simpa [zAj] using hkl
      have c1 : wr.cell? ⟨b1, o1 + k, none⟩ = some (zAj l)[k] := (Hbel.out.cell (p := ⟨b1, o1 + k, none⟩) lt1).trans (hc1 k hk'); have c2 : wr.cell? ⟨b2, o2 + k, none⟩ = some (zAj l)[k] := (Hbel.out.cell (p := ⟨b2, o2 + k, none⟩) lt2).trans (hc2 k hk'); obtain ⟨x, _, hx⟩ := oneU8 l (List.getElem?_eq_getElem hk'); rw [hx] at c1 c2; clear hc1 hc2 hx hk'
      go_wp2
      go_region_held3 (fun w' => w'.cell? ⟨b1, o1 + k, none⟩ = some (.int .u8 x.toNat) ∧ w'.cell? ⟨b2, o2 + k, none⟩ = some (.int .u8 x.toNat)) (go_keep) (first | (fail))
      go_wp2
      go_roundw
      case rel =>
        exact ⟨k + 1, by omega, by go_num, Hbel.out.drew⟩
      case measure => simp [intOf]; omega
    · have : k = l.length := by omega
      subst this
      go_wp2
      go_ret
      exact ⟨rfl, Hbel.out⟩
end
section
open Go.RowKit
attribute [local irreducible] zAh eV
variable {g w : World} {L M : List HP} {ad : Nat → Addr} {p u n q c d l : Nat} {dk : Dk} {st : St} {V : Vw}
theorem sameBytes_sl (hs : Mem g w L) {a b : Value} {l : List UInt8} (ha : Rd g L a (zAj l)) (hb : Rd g L b (zAj l)) (hlen : l.length ≤ 1073741824) : Calls Tryz.prog 55 #[a, b] w (Ret fun v w' => v = .bool true ∧ Mem g w' L) := by
  have h := hs.calls (sameBytes_any (ha.seq hs) (hb.seq hs) hlen); exact h
theorem laid_sl (hs : Mem g w (zB6 p st :: L)) (hsm : st.small) {m : Mf} {e o : SA} (hm : MfR g L m e o) {o0 o1 : Ob} (h0 : m.obs[0]? = some o0) (h1 : m.obs[1]? = some o1) {x y : List UInt8} (hx : zAw st.objs o0.1 = some x) (hy : zAw st.objs o1.1 = some y) {a1 a2 : Option Addr} {c1 c2 : Nat} (hr1 : Rd g L (.slice a1 x.length c1) (zAj x)) (hr2 : Rd g L (.slice a2 y.length c2) (zAj y)) (hxl : x.length ≤ 1000) (hyl : y.length ≤ 1000) :
    Calls Tryz.prog 18 #[.pointer (some ⟨p, 0, none⟩), .agg (mfL m e o).toArray, .slice a1 x.length c1, .slice a2 y.length c2] w (Ret fun v w' => v = .bool true ∧ Mem g w' (zB6 p st :: L)) := by
  obtain ⟨oa, oc⟩ := o; have hl2 := (List.getElem?_eq_some_iff.1 h1).1; refine zAf Tryz.func18 rfl rfl ?_
  skip
  refine zA3 (zA2 ?_); refine zBi (v := .agg _) hs rfl rfl ?_; clear hs; intro b5 w hs
  try simp only [zzs, zzz] at hs
  refine zA rfl (zA0 (v := .bool _) rfl) ?_; refine zA6 ?_; refine zA3 ?_; obtain ⟨bo, oo, rfl⟩ := hm.obs.at (hs.suffix 2 rfl) (by rw [zEk]; omega); refine zA2 ?_; refine zA rfl (zA1 (v := .pointer (some _)) rfl) ?_; refine zA rfl (zA5 (o' := 5) zCe rfl sz37 rfl rfl rfl) ?_; refine zA rfl (zA7 zDw rfl rfl (hs.cellAt 0 rfl rfl)) ?_; refine zA rfl (zAv zDw sz66 rfl rfl (i := 0) rfl (show 0 < m.obs.length by omega) rfl) ?_; refine zA rfl (zA5 uz66 rfl sz9 rfl rfl rfl) ?_; refine zA rfl (zA7 uz9 rfl rfl (hm.obs.cell (hs.suffix 2 rfl) (zFo h0) (j := 0) rfl)) ?_; refine zAb rfl en39 (bytes_sl (hs.arr [1, 0] 2 (by decide)) hsm o0.1 hx) ?_; clear hs; rintro _ w ⟨a20, c20, rfl, hs⟩
  refine zA rfl (zA1 (v := .tuple _) rfl) ?_; refine zA rfl (zAa (v := .slice _ _ _) rfl rfl) ?_; refine zA rfl (zAa (v := .bool _) rfl rfl) ?_; refine zA rfl (zA0 (v := .slice _ _ _) rfl) ?_; refine zA rfl (zA0 (v := .bool _) rfl) ?_; refine zA6 (zA3 (zA2 ?_)); refine zA rfl (zA1 (v := .pointer (some _)) rfl) ?_; refine zA rfl (zA5 (o' := 5) zCe rfl sz37 rfl rfl rfl) ?_; refine zA rfl (zA7 zDw rfl rfl (hs.cellAt 2 rfl rfl)) ?_; refine zA rfl (zAv zDw sz66 rfl rfl (i := 1) rfl (show 1 < m.obs.length by omega) rfl) ?_; refine zA rfl (zA5 uz66 rfl sz9 rfl rfl rfl) ?_; refine zA rfl (zA7 uz9 rfl rfl (hm.obs.cell (hs.suffix 3 rfl) (zFo h1) (j := 0) rfl)) ?_
  refine zAb rfl en39 (bytes_sl (hs.arr [1, 0, 2] 3 (by decide)) hsm o1.1 hy) ?_; clear hs; rintro _ w ⟨a30, c30, rfl, hs⟩; refine zA rfl (zA1 (v := .tuple _) rfl) ?_; refine zA rfl (zAa (v := .slice _ _ _) rfl rfl) ?_; refine zA rfl (zAa (v := .bool _) rfl rfl) ?_; refine zA rfl (zA0 (v := .slice _ _ _) rfl) ?_; refine zA rfl (zA0 (v := .bool _) rfl) ?_; refine zA6 (zA3 (zA2 ?_)); refine zA rfl (zA1 (v := .bool _) rfl) ?_; refine zA rfl (zA1 (v := .bool _) rfl) ?_; refine zAk rfl rfl (rfl) ?_; refine zA rfl (zA1 (v := .bool _) rfl) ?_; refine zA rfl (zAm (v := .bool _) rfl (rfl) rfl) ?_; refine zA rfl (zA1 (v := .bool _) rfl) ?_; refine zAk rfl rfl (rfl) ?_
  refine zA rfl (zA1 (v := .slice _ _ _) rfl) ?_; refine zAk rfl rfl (rfl) ?_; refine zA rfl (zA1 (v := .slice _ _ _) rfl) ?_; refine zAk rfl rfl (rfl) ?_; refine zAb rfl en55 (sameBytes_sl hs (l := x) (hs.rdOwn 2 rfl) (fun w hs => hr1 w (hs.suffix 4 rfl)) (by omega)) ?_; clear hs; rintro _ w ⟨rfl, hs⟩; refine zA rfl (zAm (v := .bool _) rfl (rfl) rfl) ?_; refine zA rfl (zA1 (v := .bool _) rfl) ?_; refine zAk rfl rfl (rfl) ?_; refine zA rfl (zA1 (v := .slice _ _ _) rfl) ?_; refine zAk rfl rfl (rfl) ?_; refine zA rfl (zA1 (v := .slice _ _ _) rfl) ?_; refine zAk rfl rfl (rfl) ?_; refine zAb rfl en55 (sameBytes_sl hs (l := y) (hs.rdOwn 0 rfl) (fun w hs => hr2 w (hs.suffix 4 rfl)) (by omega)) ?_
  clear hs; rintro _ w ⟨rfl, hs⟩; refine zA rfl (zAm (v := .bool _) rfl (rfl) rfl) ?_; refine zA rfl (zA0 (v := .bool _) rfl) ?_; refine zA6 ?_; refine zAc ?_; refine zBg (v := .bool _) rfl rfl ?_; exact ⟨_, rfl, rfl, hs.arr [1] 4 (by decide)⟩
theorem is_at {is : Bool} {s' M' i k : Nat} (his : is = decide (s' = 2)) (hz : s' = 2 ↔ M' = 0) (hM : M' + i = k) : (!is == decide ((i : Int) = (k : Int))) = false := by
  have h : decide (s' = 2) = decide ((i : Int) = (k : Int)) := decide_eq_decide.2 ⟨fun h => by have := hz.1 h; omega, fun h => hz.2 (by omega)⟩; rw [his, h]
  simp
def bAB : List UInt8 := [97, 98]
def man0 : Mf := { zBl 0 bAB [] with obs := (zBl 0 bAB []).obs.take 1 }
theorem man0_F : (mfF man0).1 = 0 := by decide +kernel
theorem man21_0F : mfF (zBl 0 bAB []) = (0, none) := mkG_F (by decide +kernel) (by decide) (by decide)
theorem man0_up : (upF 10 man0 [bAB]).1 = 0 := by decide +kernel
theorem man0_len : (mfB man0).length ≤ 4000 := by decide +kernel
theorem man0_sum : ∀ o ∈ man0.obs, o.2.2 < 4294967296 := by decide +kernel
def osb0 : List (ByteArray × List UInt8) := osM man0 [bAB]
theorem osb0_F : OsF osb0 := by
  have h0 : osb0 = [(zCd 0 zE5 10, bAB)] := rfl; rw [h0]; refine ⟨fun n b b' h1 h2 => ?_, fun n b h => ?_, fun n b h => ?_⟩
  · simp only [List.mem_cons, Prod.mk.injEq, List.not_mem_nil, or_false] at h1 h2
    rw [h1.2, h2.2]
  · simp only [List.mem_cons, Prod.mk.injEq, List.not_mem_nil, or_false] at h
    rw [h.2]; decide
  · simp only [List.mem_cons, Prod.mk.injEq, List.not_mem_nil, or_false] at h
    rw [h.1]; decide +kernel
set_option maxRecDepth 100000 in
set_option maxHeartbeats 4000000 in
theorem first21_sl (hE : ErrU ad g) (hs : Mem g w L) : Calls Tryz.prog 8 #[] w (Ret fun v w' => v = .bool true ∧ Mem g w' L) := by
  refine zAf Tryz.func8 rfl rfl ?_
  skip
  refine zA3 (zA2 ?_); refine zA rfl (zA0 (v := .bool _) rfl) ?_; refine zA6 (zA3 (zA2 ?_)); refine zAb rfl en10 (newd_sl hs (r := 65536) (by decide) (by decide)) ?_; clear hs; rintro _ w ⟨d, rfl, hs⟩; refine zA rfl (zA1 (v := .tuple _) rfl) ?_; refine zA rfl (zAa (v := .pointer (some _)) rfl rfl) ?_; refine zA rfl (zAa (v := .nilIface) rfl rfl) ?_; refine zA rfl (zA0 (v := .pointer (some _)) rfl) ?_; refine zA rfl (zA0 (v := .nilIface) rfl) ?_; refine zA6 ?_; refine zA3 ?_; refine zA3 (zA2 ?_); refine zA rfl (zA1 (v := .pointer (some _)) rfl) ?_; refine zA rfl (zDe uz25 rfl rfl) ?_; refine zA rfl (zA1 (v := .bool _) rfl) ?_; refine zAk rfl rfl (rfl) ?_
  refine zA rfl (zA1 (v := .nilIface) rfl) ?_; refine zAk rfl rfl (rfl) ?_; refine zA rfl (zC8 rfl) ?_; refine zA rfl (zAi (v := .bool _) rfl (rfl) rfl) ?_; refine zA6 ?_; refine zB4 rfl (rfl) ?_; refine zAd ?_; refine zA3 (zA2 ?_); refine zAb rfl en11 (new_sl hs) ?_; clear hs; rintro _ w ⟨sp, rfl, hs⟩; refine zA rfl (zA0 (v := .pointer (some _)) rfl) ?_; refine zA6 (zA3 (zA2 ?_)); refine zA rfl (zA1 (v := .pointer (some _)) rfl) ?_; refine zA rfl (zA1 (v := .pointer (some _)) rfl) ?_; refine zAb rfl en12 (opened_sl hE.uM hE.uG (hs.arr [1, 0] 2 (by decide)) (N := UpN) (B := 9000) (RawI.start (by decide)) up_mt up_sn rfl (by decide) rfl rfl (tr := 1) (by decide)) ?_; clear hs
  rintro _ w ⟨l, c, dk2, rfl, k1, k2, k3, k4, hs⟩; refine zA rfl (zA1 (v := .tuple _) rfl) ?_; refine zA rfl (zAa (v := .pointer (some _)) rfl rfl) ?_; refine zA rfl (zAa (v := .pointer (some _)) rfl rfl) ?_; refine zA rfl (zA0 (v := .pointer (some _)) rfl) ?_; refine zA rfl (zA0 (v := .pointer (some _)) rfl) ?_; refine zA6 ?_; refine zA3 ?_; refine zA3 (zA2 ?_); refine zA rfl (zA1 (v := .pointer (some _)) rfl) ?_; refine zA rfl (zDe uz32 rfl rfl) ?_; refine zA6 ?_; refine zB4 rfl (rfl) ?_; refine zAd ?_; refine zA3 (zA2 ?_); refine zB hs rfl ([.int .u8 97, .int .u8 98]) zCi zs5 rfl (by simp [Value.cells]) rfl rfl rfl ?_; clear hs; intro b33 w hs
  try simp only [zzs, zzz] at hs
  refine lw_constBytes hs rfl 0 rfl rfl zCi uz5 rfl ?_; clear hs; intro w hs
  try simp only [zzs, zzz] at hs
  refine zAb rfl en13 (man21_sl hs (id := 0) (x := bAB) (y := []) (by decide) (Rd.rd 0 rfl) Rd.nil (by decide) (by decide) man21_0F) ?_; clear hs; rintro _ w ⟨s1, s2, rfl, hs⟩; refine zBm hs rfl ze39 ?_; clear hs; intro b6 w hs
  try simp only [zzs, zzz] at hs
  refine zAp hs 0 rfl rfl rfl zEe rfl rfl ?_; clear hs; intro w hs
  try simp only [zzs, zzz] at hs
  refine zA6 ?_; refine zA3 ?_; obtain ⟨s2a, s2c⟩ := s2; have hcap : 2 ≤ s2c := (RdK.row (k := 3) (v := .slice s2a 2 s2c) (rows := (zBl 0 bAB []).obs.map obL) 2 rfl).cap hs; obtain ⟨b2, o2, rfl⟩ := (RdK.row (k := 3) (v := .slice s2a 2 s2c) (rows := (zBl 0 bAB []).obs.map obL) 2 rfl).at hs (by decide); refine zA2 ?_; refine zA rfl (zA5 (o' := 5) zCe rfl sz37 rfl rfl rfl) ?_; refine zA rfl (zA7 zDw rfl rfl (hs.cellAt 0 rfl rfl)) ?_; refine zA rfl (run_sliceToK zDw sz66 rfl rfl (hi := 1) rfl (by omega) (.inr ⟨_, _, rfl⟩)) ?_; refine zA rfl (zA5 (o' := 5) zCe rfl sz37 rfl rfl rfl) ?_; refine zB1 (v := .slice _ _ _) hs 0 rfl sz37 rfl rfl rfl rfl ?_; clear hs; intro w hs
  try simp only [zzs, zzz] at hs
  refine zA6 ?_; replace hs : Mem g w (cells b6 (mfL man0 s1 (some ⟨b2, o2, none⟩, s2c)) 39 :: zDh 2 (.slice s1.1 man0.eps.length s1.2) (man0.eps.map prL) :: zDh 3 (.slice (some ⟨b2, o2, none⟩) (zBl 0 bAB []).obs.length s2c) ((zBl 0 bAB []).obs.map obL) :: rd (.slice (some ⟨b33, 0, none⟩) 2 2) (zAj bAB) :: zB8 c sp 1 0 :: zD2 l d 3 [] 0 0 0 :: zB9 d dk2 :: zB6 sp St.empty :: L) := hs; refine zA3 (zA2 ?_); refine zA rfl (zA1 (v := .pointer (some _)) rfl) ?_; refine zA rfl (zA1 (v := .pointer (some _)) rfl) ?_; refine zA rfl (zA1 (v := .pointer (some _)) rfl) ?_; refine zA rfl (zC4 hs 0 (mfL man0 s1 (some ⟨b2, o2, none⟩, s2c)) rfl zCe zEe rfl rfl) ?_
  refine zB hs rfl ([.int .u8 97, .int .u8 98]) zCi zs5 rfl (by simp [Value.cells]) rfl rfl rfl ?_; clear hs; intro b45 w hs
  try simp only [zzs, zzz] at hs
  refine lw_constBytes hs rfl 0 rfl rfl zCi uz5 rfl ?_; clear hs; intro w hs
  try simp only [zzs, zzz] at hs
  refine zB hs rfl ([bV (bAB, (some ⟨b45, 0, none⟩, 2))]) zGc zs22 rfl (fun u hu => (by simp only [List.mem_cons, List.not_mem_nil, or_false] at hu; subst hu; rfl)) rfl rfl rfl ?_; clear hs; intro b47 w hs
  try simp only [zzs, zzz] at hs
  refine zAb rfl en15 (upNew_sl hE (hs.arr [7, 8, 0, 1, 2, 3, 4, 5, 6, 9] 10 (by decide)) (each := 10) (inI (by omega) (by omega)) (m := man0) (e := s1) (o := (some ⟨b2, o2, none⟩, s2c)) ⟨RdK.row 3 rfl, (RdK.row (k := 3) (v := .slice (some ⟨b2, o2, none⟩) 2 s2c) (rows := (zBl 0 bAB []).obs.map obL) 4 rfl).take (hi := 1) (by decide)⟩ (by decide) (by decide) (bl := [(bAB, (some ⟨b45, 0, none⟩, 2))]) (Rd.cells 0 rfl rfl) (fun x hx => by simp only [List.mem_cons, List.not_mem_nil, or_false] at hx; subst hx; exact Rd.rd 1 rfl) (fun x hx => by simp only [List.mem_cons, List.not_mem_nil, or_false] at hx; subst hx; show 2 ≤ 1048576; decide) (is := false) (z := (0, 0, 0, 0)) (k4.jnone up_up (zG5 _ _ mt_up.symm)) (by decide)) ?_
  clear hs; rintro _ w hN; obtain ⟨u, t1, t2, xs, s3, s4, rfl, hxs, hs⟩ := hN.fine man0_up (show (0 : Int) < 2 by decide) (.inl rfl); refine zA rfl (zA1 (v := .tuple _) rfl) ?_; refine zA rfl (zAa (v := .pointer (some _)) rfl rfl) ?_; refine zA rfl (zAa (v := .nilIface) rfl rfl) ?_; refine zA rfl (zA0 (v := .pointer (some _)) rfl) ?_; refine zA rfl (zA0 (v := .nilIface) rfl) ?_; refine zA6 ?_; refine zA3 ?_; refine zA3 (zA2 ?_); refine zA rfl (zA1 (v := .pointer (some _)) rfl) ?_; refine zA rfl (zDe uz47 rfl rfl) ?_; refine zA rfl (zA1 (v := .bool _) rfl) ?_; refine zAk rfl rfl rfl ?_; refine zA rfl (zA1 (v := .nilIface) rfl) ?_; refine zAk rfl rfl rfl ?_; refine zA rfl (zC8 rfl) ?_
  refine zA rfl (zAi (v := .bool _) rfl rfl rfl) ?_; refine zA6 ?_; refine zB4 rfl (rfl) ?_; refine zAd ?_; refine zA3 ?_; refine zA3 ?_; have hU : UpOk osb0 ⟨d, l, c, man0, t1, t2, 10, xs, s3, s4⟩ := upOk_mk (each := 10) (bs := [bAB]) (by omega) hxs rfl (by decide) osb0_F (fun o h => h) (by decide); have hL : LgC ad g ⟨d, l, c, man0, t1, t2, 10, xs, s3, s4⟩ (UgN 9000 65536 ((mfB man0).length + 17)) [] [(man0.id, ⟨1, man0⟩)] [(man0.id, ⟨2, man0⟩)] := lgN hE.uM rfl (by have := man0_len; omega) (by decide) (by decide) man0_F (show man0.obs.length ≤ 1000000 by decide) man0_sum
  obtain ⟨R, hR⟩ : ∃ R, R = cells b6 (mfL man0 s1 (some ⟨b2, o2, none⟩, s2c)) 39 :: zDh 2 (.slice s1.1 man0.eps.length s1.2) (man0.eps.map prL) :: zDh 3 (.slice (some ⟨b2, o2, none⟩) (zBl 0 bAB []).obs.length s2c) ((zBl 0 bAB []).obs.map obL) :: L := ⟨_, rfl⟩
  replace hs : Mem g w (UpC u ⟨d, l, c, man0, t1, t2, 10, xs, s3, s4⟩ (man0.id, 0, 0, 0) false :: zB8 c sp ((0 + 1 : Nat) : Int) ((0 : Nat) : Int) :: zB6 sp St.empty :: zD2 l d 3 [] 0 0 0 :: zB9 d dk2 :: R) := by rw [hR]; exact hs.arr [0, 9, 10, 1, 2, 5, 6, 7] 11 (by decide)
  have hosu : osU (⟨d, l, c, man0, t1, t2, 10, xs, s3, s4⟩ : UpT) = osb0 := osU_eq (xs := xs) (bs := [bAB]) hxs; refine zA2 ?_; refine zA rfl (zA0 (v := .int .i64 _) rfl) ?_; refine zA6 ?_; refine zAn ?_
  refine zBt (X := Nat) [0, 9, 10, 11, 57, 58, 59, 60, 61, 62, 63, 64, 65, 66, 67, 68, 69, 70, 71, 72, 73] (fun i => [(9, .int .i64 (i : Nat))]) (fun i w => (1 ≤ i ∧ i ≤ 6) ∧ ∃ ak s a ov V q c' n dk st M, StI osb0 [] ⟨d, l, c, man0, t1, t2, 10, xs, s3, s4⟩ true (UgN 9000 65536 ((mfB man0).length + 17)) [] [(man0.id, ⟨1, man0⟩)] [(man0.id, ⟨2, man0⟩)] s a ov V q c' n dk st M ∧ M + i = 6 ∧ Bnd (100 * i) ak st dk ∧ Mem g w (UpC u ⟨d, l, c, man0, t1, t2, 10, xs, s3, s4⟩ a ov :: zB8 c sp ((0 + 1 : Nat) : Int) (ak : Nat) :: zB6 sp st :: zD2 l d 3 V q c' n :: zB9 d dk :: R)) (fun i => 6 - i) (1) ?_ ?_ ?_
  · exact ⟨rfl, trivial⟩
  · exact ⟨⟨by omega, by omega⟩, 0, 0, _, false, [], 0, 0, 0, dk2, St.empty, _, StI.start (PIn.empty []) (fun _ => ⟨rfl, rfl⟩) (UgN.zero k4 k1 k2), by rw [hosu]; show restM 10 osb0 + 2 + 1 = 6; decide, ⟨by decide, by decide, by decide, by decide, by simp [Dk.empty] at k3; omega⟩, hs⟩
  clear hs; rintro x ξ w hI; obtain ⟨hi, ak, s, a, ov, V, q, c', n, dk, st, M, hI, hM, hB, hs⟩ := hI; refine zA3 ?_; refine zA3 (zA2 ?_); refine zA rfl (zA1 (v := .int .i64 _) rfl) ?_; refine zA rfl (zE1 rfl rfl) ?_; refine zA6 ?_; refine zB0 rfl ?_ ?_
  ·
   intro h58; have g58 := of_decide_eq_true h58; refine zAd ?_; refine zA3 ?_; refine zAn ?_; refine zA3 (zA2 ?_); refine zA rfl (zA1 (v := .pointer (some _)) rfl) ?_; refine zAb rfl en16 (upStep hE hU (K := []) (fun x hx => by cases hx) hL hI hB (by omega) (tr := 0) (by omega) hs) ?_; clear hs; rintro _ w ⟨is, y, s', a', ov', V', q', c3, n', dk', st', ak', M', rfl, hI', hB', hy, his, hle, hlt, hcl, hs⟩; obtain ⟨rfl, hM'⟩ := hcl rfl; refine zA rfl (zA1 (v := .tuple _) rfl) ?_; refine zA rfl (zAa (v := .bool _) rfl rfl) ?_; refine zA rfl (zAa (v := zAh ad _) rfl rfl) ?_; refine zA rfl (zA0 (v := .bool _) rfl) ?_; refine zA rfl (zA0 (v := zAh ad _) rfl) ?_; refine zA6 (zA3 (zA2 ?_))
   refine zA rfl (zA1 (v := zAh ad _) rfl) ?_; refine zA rfl (zAu (ad := ad) rfl) ?_; refine zA rfl (zA1 (v := .bool _) rfl) ?_; refine zAk rfl rfl (rfl) ?_; refine zA rfl (zA1 (v := .bool _) rfl) ?_; refine zAk rfl rfl (rfl) ?_; refine zA rfl (zA1 (v := .int .i64 _) rfl) ?_; refine zAk rfl rfl (rfl) ?_; refine zA rfl (zBp rfl rfl) ?_; refine zAk rfl rfl (rfl) ?_; refine zA rfl (run_neb uz4 rfl rfl) ?_; refine zA rfl (zAi (v := .bool _) rfl (rfl) rfl) ?_; refine zA6 ?_; refine zB4 rfl ((is_at (k := 5) his hI'.zero (by omega))) ?_; refine zAd ?_; refine zA2 ?_; refine zA rfl (zA1 (v := .int .i64 _) rfl) ?_; refine zA rfl (zAs rfl rfl rfl (inI (by omega) (by omega))) ?_
   refine zA rfl (zA0 (v := .int .i64 _) rfl) ?_; refine zA6 ?_; exact ⟨x + 1, by omega, ⟨⟨by omega, by omega⟩, ak', s', a', ov', V', q', c3, n', dk', st', M', hI', by omega, hB', hs⟩, ⟨rfl, trivial⟩, by repeat (first | exact Out.mix _ _ _ | refine Out.updo rfl ?_ | refine Out.upd rfl ?_ | refine Out.mixIn rfl ?_)⟩
  ·
   intro h58; have g58 := of_decide_eq_false h58; obtain rfl : s = 2 := hI.zero.2 (by omega); obtain ⟨rfl, hlg, hp, hobs, _⟩ := hI.done; subst hR; refine zBo rfl ?_; refine zA3 (zA2 ?_); refine zA rfl (zA1 (v := .pointer (some _)) rfl) ?_; refine zA rfl (zA5 (o' := 5) zCe rfl sz37 rfl rfl rfl) ?_; refine zA rfl (zA7 zDw rfl rfl (hs.cellAt 5 rfl rfl)) ?_; refine zA rfl (zAv zDw sz66 rfl rfl (i := 0) rfl (by decide) rfl) ?_; refine zA rfl (zA5 uz66 rfl sz9 rfl rfl rfl) ?_; refine zA rfl (zA7 uz9 rfl rfl ((RdK.row (k := 3) (v := .slice (some ⟨b2, o2, none⟩) 2 s2c) (rows := (zBl 0 bAB []).obs.map obL) 7 rfl).cell hs (q := 0) rfl (j := 0) rfl)) ?_
   refine zAb rfl en39 (bytes_sl (hs.arr [2, 0, 1, 3, 4, 5, 6, 7] 8 (by decide)) hp.small (zCd 0 zE5 10) (o := some bAB) (hobs (zCd 0 zE5 10, bAB) (by rw [hosu]; exact List.mem_cons_self ..))) ?_; clear hs; rintro _ w ⟨a81, c81, rfl, hs⟩; obtain ⟨b81, o81, rfl, _⟩ := hs.ownCells 0 rfl (by decide); refine zA rfl (zA1 (v := .tuple _) rfl) ?_; refine zA rfl (zAa (v := .slice _ _ _) rfl rfl) ?_; refine zA rfl (zAa (v := .bool _) rfl rfl) ?_; refine zA rfl (zA0 (v := .slice _ _ _) rfl) ?_; refine zA rfl (zA0 (v := .bool _) rfl) ?_; refine zA6 (zA3 (zA2 ?_)); refine zA rfl (zA1 (v := .bool _) rfl) ?_; refine zA rfl (zA1 (v := .bool _) rfl) ?_; refine zAk rfl rfl (rfl) ?_
   refine zA rfl (zA1 (v := .slice _ _ _) rfl) ?_; refine zAk rfl rfl (rfl) ?_; refine zA rfl (run_bytesStr zCi uz5 uz9 rfl (l := bAB) rfl (fun j v hj => hs.ownAt 0 rfl hj)) ?_; refine zAk rfl rfl (rfl) ?_; refine zA rfl (run_eqs rfl rfl) ?_; refine zA rfl (zAm (v := .bool _) rfl (rfl) rfl) ?_; refine zA rfl (zA1 (v := .bool _) rfl) ?_; refine zAk rfl rfl (rfl) ?_; refine zA rfl (zA1 (v := .pointer (some _)) rfl) ?_; refine zAk rfl rfl (rfl) ?_; refine zAb rfl en19 (zFp (hs.arr [4, 0, 1, 2, 3, 5, 6, 7, 8] 9 (by decide))) ?_; clear hs; rintro _ w ⟨v92, rfl, hs⟩; refine zAk rfl rfl (rfl) ?_; refine zAb rfl en20 (zEv hs 0) ?_; clear hs; rintro _ w ⟨rfl, hs⟩; refine zAk rfl rfl (rfl) ?_
   refine zA rfl (zBp rfl rfl) ?_; refine zA rfl (zAm (v := .bool _) rfl (rfl) rfl) ?_; refine zA rfl (zA0 (v := .bool _) rfl) ?_; refine zA6 ?_; refine zAc ?_; refine zBg (v := .bool _) rfl rfl ?_; exact ⟨_, rfl, by rw [show Vw.state [(man0.id, (⟨2, man0⟩ : Itm))] 0 = 2 from rfl]; rfl, hs.suffix 10 rfl⟩
end
section
open Go.RowKit
attribute [local irreducible] zAh eV
variable {g w : World} {L M : List HP} {ad : Nat → Addr} {p u n q c d l id : Nat} {dk : Dk} {st : St} {x y : List UInt8} {s1 s2 s3 s4 : SA} {xs : List (List UInt8 × SA)} {V V0 V1 V2 : Vw} {K osb : List (ByteArray × List UInt8)} {a : S4} {cl : Bool} {t : UpT}
structure TwoOk (id : Nat) : Prop where
  h0 : mfF ⟨id, (10 : Nat), 20, 5, [(1, 10)], [(zCd id zE5 10, 0, 0), (zCd id zD7 10, 0, 0)]⟩ = (0, none)
  ne : zCd id zE5 10 ≠ zCd id zD7 10
  v1 : zBq (zCd id zE5 10).data.toList = true
  v2 : zBq (zCd id zD7 10).data.toList = true
  le : id ≤ 2147483647
def twoOs (id : Nat) (x y : List UInt8) : List (ByteArray × List UInt8) := [(zCd id zE5 10, x), (zCd id zD7 10, y)]
theorem TwoOk.mf (h : TwoOk id) (hx : x.length ≤ 256) (hy : y.length ≤ 256) : mfF (zBl id x y) = (0, none) := mkG_F h.h0 (by omega) (by omega)
theorem TwoOk.up (h : TwoOk id) (hx : x.length ≤ 256) (hy : y.length ≤ 256) {each : Int} (he : 1 ≤ each ∧ each ≤ 1000) : (upF each (zBl id x y) [x, y]).1 = 0 :=
  upF_two he (by rw [h.mf hx hy]) rfl (obG_fine he hx h.v1 rfl rfl) (obG_fine he hy h.v2 rfl rfl)
theorem TwoOk.upOk (h : TwoOk id) (hx : x.length ≤ 256) (hy : y.length ≤ 256) {e : Nat} (he : 1 ≤ e ∧ e ≤ 1000) (hxs : xs.map (·.1) = [x, y]) (hO : OsF osb) (hs : ∀ o ∈ twoOs id x y, o ∈ osb) : UpOk osb ⟨d, l, c, zBl id x y, s1, s2, e, xs, s3, s4⟩ :=
  upOk_mk (each := ((e : Nat) : Int)) (bs := [x, y]) (by omega) hxs rfl (by simp) hO hs ⟨by show (0 : Int) ≤ ((id : Nat) : Int); omega, by have := h.le; show ((id : Nat) : Int) ≤ _; omega⟩
theorem zGa {α : Type} {P : α → Prop} {z1 z2 : α} (h1 : P z1) (h2 : P z2) : ∀ z ∈ [z1, z2], P z := fun z hz => by
  simp only [List.mem_cons, List.not_mem_nil, or_false] at hz
  rcases hz with rfl | rfl
  · exact h1
  · exact h2
theorem RawI.jany {N : List ByteArray} {B : Nat} {f : ByteArray → Option (List UInt8)} {d : Dk} (h : RawI N B f d) (hs : nUp ∈ N) : ∃ (is : Bool) (z : S4), jst (d.pread nUp) = (0, is, z.1, z.2.1, z.2.2.1, z.2.2.2) ∧ 0 ≤ z.2.1 := by
  have hp : (d.pread nUp).1 ≠ 110 := by
    cases hf : f nUp with
    | none => rw [h.pread_none hs hf]; exact fun h => by cases h
    | some v =>
      have h1 := h.lenR hs; rw [hf] at h1; have h1 : d.lenR nUp = (0, v.length) := h1; have h2 := h.readR hs hf
      unfold Dk.pread
      rw [if_neg (by rw [h1]; exact fun h => h rfl), h1, if_neg (by simp only; rw [h2]; exact fun h => h rfl)]
      rcases (openL_code (d.readR nUp 0 ((v.length : Nat) : Int)).2).1 with h | h | h <;> (rw [h]; decide)
  unfold jst
  rw [if_neg hp]
  split
  · split
    · rename_i x y z u _ hc
      exact ⟨true, (x, y, z, u), rfl, (inR_iff.1 (List.all_eq_true.1 hc.2 y (by simp))).1⟩
    · exact ⟨false, s40, rfl, Int.le_refl _⟩
  · exact ⟨false, s40, rfl, Int.le_refl _⟩
theorem StI.at {Lg : Nat → Vw → Nat → Nat → Nat → Dk → Prop} {s M0 : Nat} {ov : Bool} (hU : UpOk osb t) (h : StI osb K t cl Lg V0 V1 V2 s a ov V q c n dk st M0) (hs : s ≠ 2) : ∃ (k done : Nat) (uid : Int), a = (t.m.id, (k : Int), uid, (done : Int)) ∧ k ≤ t.xs.length ∧ (done = 0 ∨ ∃ o ∈ osU t, done ≤ zB5 o.2.length t.each) := by
  obtain ⟨_, _, ⟨rfl, _, rfl, _⟩ | ⟨rfl, _, M1, hob, _⟩ | ⟨rfl, _⟩⟩ := h
  · exact ⟨0, 0, 0, rfl, Nat.zero_le _, .inl rfl⟩
  · rcases hob with ⟨k, o, uid, done, m, ho, rfl, _, hph, _⟩ | ⟨rfl, _⟩
    · have h1 := (List.getElem?_eq_some_iff.1 ho).1
      rw [osU_len hU] at h1; exact ⟨k, done, uid, rfl, by omega, .inr ⟨o, List.mem_of_getElem? ho, hph.le.2.2.1⟩⟩
    · rw [osU_len hU]
      exact ⟨_, 0, 0, rfl, Nat.le_refl _, .inl rfl⟩
  · exact absurd rfl hs
end
section
open Go.RowKit
attribute [local irreducible] zAh eV
variable {g w : World} {L M : List HP} {ad : Nat → Addr} {p d pv ev : Nat} {dk : Dk} {f : ByteArray → Option (List UInt8)} {V U : Vw} {q r c n : Nat} {b mb : List UInt8} {N : List ByteArray} {B : Nat}
theorem vw_len2 (ho : V.ok) (h : V.length ≤ 2) : (vwB V).length ≤ 12044 := by
  have h1 := items_len ho (sortI (zAg V)); have h2 := zCu V.length; have h3 : (vwB V).length = (vwBody V).length + 4 := zCc _; rw [sortI_len, zAg, List.length_map] at h1; rw [h3]
  simp only [vwBody, List.length_append, zAg] at h1 ⊢; omega
set_option maxHeartbeats 1000000 in
theorem snapN_sl (hM : ErrM ad g) (hs : Mem g w (zD2 p d ev V q c n :: zB9 d dk :: L)) (hI : RawI N B f dk) (hmt : mtN ∈ N) (hsn : snN ∈ N) (hNn : ∀ n ∈ N, zC5 snN ≠ n) (ha : dk.armed = 0) (hf : f mtN = some mb) (hcl : dk.calls < 800000) (hB : 12100 ≤ B ∧ B ≤ 200000) (hr : 2 * N.length * B + B ≤ dk.room) (hu : V.sums) (hl : V.length ≤ 2) (hq : q < 4611686018427387904) :
    Calls Tryz.prog 98 #[.pointer (some ⟨p, 0, none⟩)] w (Ret fun v w' => ∃ dk2, v = zAh ad 0 ∧ (dk2.room = dk.room ∧ dk2.calls ≤ dk.calls + 7 ∧ dk2.armed = 0 ∧ RawI N B (zFj (zFj f snN (zC1 (snapB q V))) mtN []) dk2) ∧ Mem g w' (zD2 p d ev V q 0 0 :: zB9 d dk2 :: L)) := by
  have hK := hM.toK; obtain ⟨pv, hs⟩ := hs.openL; have ho : V.ok := ((hs.arr [1, 0, 2] 3 (by decide)).openQ).1; have hvb := vw_len2 ho hl; have hql := zCu q; have hsl : (snapB q V).length = (zBr q).length + (vwB V).length := List.length_append; obtain ⟨kw, dw, hw, hwr, hwc, hwcase⟩ := hI.write (b := snapB q V) hsn hNn snN_valid snN_valid2 (by omega) hr; obtain ⟨rfl, hup, har, hI2⟩ := hwcase.resolve_right (fun h => h.2.2.1 ha); refine zAf Tryz.func98 rfl rfl ?_
  skip
  refine zA3 (zA2 ?_); refine zA rfl (zA0 (v := .nilIface) rfl) ?_; refine zA6 ?_; refine zA3 ?_; refine zA3 ?_; refine zAo zBj (hs.drop 2) ?_; intro w tr hK; replace hs := tr _ hs; clear tr; refine zA4 0 rfl rfl (fun w hs => zA1 (v := .pointer (some _)) rfl) hK ?_; refine zA4 1 rfl rfl (fun w hs => zA8 rfl) hK ?_; refine zA4 2 rfl rfl (fun w hs => zA5 (o' := 0) zD3 rfl sz25 rfl rfl rfl) hK ?_; refine zA4 3 rfl rfl (fun w hs => zA7 uz25 rfl rfl (hs.cellAt 0 rfl rfl)) hK ?_; refine zA4 4 rfl rfl (fun w hs => zA1 (v := .pointer (some _)) rfl) hK ?_; refine zA4 5 rfl rfl (fun w hs => zA8 rfl) hK ?_; refine zA4 6 rfl rfl (fun w hs => zA5 (o' := 3) zD3 rfl sz2 rfl rfl rfl) hK ?_
  refine zA4 7 rfl rfl (fun w hs => zA7 uz2 rfl rfl (hs.cellAt 0 rfl rfl)) hK ?_; refine zA4 8 rfl rfl (fun w hs => zBf uz2 zEz rfl (c := ((q : Nat) : Int)) (by rw [zCm]; omega)) hK ?_; refine zA4 10 rfl rfl (fun w hs => zA1 (v := .pointer (some _)) rfl) hK ?_; refine zA4 11 rfl rfl (fun w hs => zA8 rfl) hK ?_; refine zA4 12 rfl rfl (fun w hs => zA5 (o' := 2) zD3 rfl sz54 rfl rfl rfl) hK ?_; refine zA4 13 rfl rfl (fun w hs => zA7 uz54 rfl rfl (hs.cellAt 0 rfl rfl)) hK ?_; refine zAe [9] ?_; refine ⟨⟨_, rfl, ?_⟩, trivial⟩; refine zAb rfl en142 (zE2 hs (lb := []) (n := q) Rd.nil rfl (by decide) (by omega)) ?_; clear hs; rintro _ w ⟨a14, c14, rfl, hs⟩; rw [List.nil_append] at hs ⊢; clear hK
  have hK := hs.tail.drop 2; refine zA6 ⟨hK, ?_⟩; refine zAe [14] ?_; refine ⟨⟨_, rfl, ?_⟩, trivial⟩; refine zAb rfl en143 (bytesq_sl hM.toV (hs.arr [2, 0, 1, 3] 4 (by decide)) (by omega) hu) ?_; clear hs; rintro _ w ⟨a19, c19, rfl, hs⟩; clear hK; have hK := hs.arr [3, 1] 5 (by decide); refine zA6 ⟨hK, ?_⟩; refine zAe [15] ?_; refine ⟨⟨_, rfl, ?_⟩, trivial⟩; refine zCj hs rfl 2 rfl zCi in5 rfl rfl rfl (zCa (P := Tryz.prog) zCi ((Rd.own (l := zAj (vwB V)) 0 rfl).seq hs) (zBv _)) (by simp only [zAr]; omega) (by simp only [zAr]; omega) ?_; clear hs; intro a20 c20 w hs; simp only [zzs, zzz] at hs
  have e1 : zAj (zBr q) ++ zAj (vwB V) = zAj (snapB q V) := (zCs _ _).symm
  have e2 : (zAj (zBr q)).length + (zAj (vwB V)).length = (snapB q V).length := by simp only [zAr, hsl]
  rw [e2] at hs ⊢; rw [e1] at hs; clear hK; have hK := hs.arr [3, 1] 5 (by decide); refine zA6 ⟨hK, ?_⟩; refine zAe [16] ?_; refine ⟨⟨_, rfl, ?_⟩, trivial⟩; refine zAb rfl en141 (write_sl hM.toK (by omega) (hs.arr [4, 0, 1, 2, 3] 5 (by decide)) snN (by decide) (Rd.own (l := zAj (snapB q V)) 2 rfl) rfl (by omega) hw) ?_; clear hs; rintro _ w ⟨rfl, hs⟩; clear hK; have hK := hs.arr [4, 2] 5 (by decide); refine zA6 ⟨hK, ?_⟩; refine zA4 17 rfl rfl (fun w hs => zA0 (v := zAh ad _) rfl) hK ?_; refine zAt (by kernel_rfl) ?_; clear hK; refine zA3 (zA2 ?_); refine zA rfl (zA1 (v := zAh ad _) rfl) ?_; refine zA rfl (zAu (ad := ad) rfl) ?_; refine zA6 ?_; refine zB4 rfl (rfl) ?_; refine zAd ?_
  refine zA3 ?_; refine zA3 ?_; have hI3 := hI2 (hs.openD).1; obtain ⟨kc, dc, hcut, hcr, hcc, hccase⟩ := hI3.cut hmt (v := mb) (by rw [zG5 _ _ mt_sn]; exact hf) (m := 0) (Nat.zero_le _); obtain ⟨rfl, hup2, har2, hI4⟩ := hccase.resolve_right (fun h => h.2.2.1 (har ha)); refine zA2 ?_; refine zA rfl (zA1 (v := .pointer (some _)) rfl) ?_; refine zA rfl (zA8 rfl) ?_; refine zA rfl (zA5 (o' := 0) zD3 rfl sz25 rfl rfl rfl) ?_; refine zA rfl (zA7 uz25 rfl rfl (hs.cellAt 4 rfl rfl)) ?_; refine zAb rfl en97 (cut_sl hM.toK hs (by omega) mtN (m := 0) (inI (by decide) (by decide)) hcut) ?_; clear hs; rintro _ w ⟨rfl, hs⟩; refine zA rfl (zA0 (v := zAh ad _) rfl) ?_; refine zA6 (zA3 (zA2 ?_))
  refine zA rfl (zA1 (v := zAh ad _) rfl) ?_; refine zA rfl (zAu (ad := ad) rfl) ?_; refine zA6 ?_; refine zB4 rfl (rfl) ?_; refine zAd ?_; refine zA3 (zA2 ?_); refine zA rfl (zA1 (v := .pointer (some _)) rfl) ?_; refine zA rfl (zA1 (v := .pointer (some _)) rfl) ?_; refine zA rfl (zA8 rfl) ?_; refine zA rfl (zA5 (o' := 4) zD3 rfl sz3 rfl rfl rfl) ?_; refine zB1 (v := .int .i64 _) hs 4 rfl sz3 rfl rfl rfl rfl ?_; clear hs; intro w hs
  try simp only [zzs, zzz] at hs
  refine zA rfl (zA8 rfl) ?_; refine zA rfl (zA5 (o' := 5) zD3 rfl sz3 rfl rfl rfl) ?_; refine zB1 (v := .int .i64 _) hs 4 rfl sz3 rfl rfl rfl rfl ?_; clear hs; intro w hs
  try simp only [zzs, zzz] at hs
  refine zA6 (zA3 (zA2 ?_)); refine zA rfl (zA0 (v := .nilIface) rfl) ?_; refine zA6 ?_; refine zAc ?_; refine zBg (v := .nilIface) rfl rfl ?_; exact ⟨_, rfl, dc, (zAz ad).symm, ⟨hcr.trans hwr, by omega, har2 (har ha), hI4 (hs.openD).1⟩, Mem.closeL (hs.arr [4, 2, 0] 5 (by decide))⟩
set_option maxHeartbeats 2000000 in
theorem appS_sl (hM : ErrM ad g) (hs : Mem g w (zD2 p d ev V q c n :: zB9 d dk :: L)) (hI : RawI N B f dk) (hmt : mtN ∈ N) (hsn : snN ∈ N) (hNn : ∀ n ∈ N, zC5 snN ≠ n) (ha : dk.armed = 0) (hB : 12100 ≤ B ∧ B ≤ 200000) (hf : f mtN = some mb) (hn : n = mb.length) (hcl : dk.calls < 700000) (hr : 2 * N.length * B + B ≤ dk.room) (hq : q < 1000000) (hc : ev ≤ c + 1) (hc2 : c ≤ 1000000) {k : Int} {x : Mf} {e o : SA} (hb : mb.length + (frame (q + 1) (k, x)).length ≤ B) (hm : MfR g L x e o) (hob : x.obs.length ≤ 1000000) (hsu : ∀ o ∈ x.obs, o.2.2 < 4294967296) {V1 : Vw} (hap : V.apply k x = ((0, none), V1)) (hu1 : V1.sums) (hl1 : V1.length ≤ 2) :
    Calls Tryz.prog 52 #[.pointer (some ⟨p, 0, none⟩), .agg (.int .i64 k :: mfL x e o).toArray] w (Ret fun v w' => ∃ dk2, v = zAh ad 0 ∧ (dk2.room = dk.room ∧ dk2.calls ≤ dk.calls + 20 ∧ dk2.armed = 0 ∧ RawI N B (zFj (zFj (zFj f mtN (mb ++ frame (q + 1) (k, x))) snN (zC1 (snapB (q + 1) V1))) mtN []) dk2) ∧ Mem g w' (zD2 p d ev V1 (q + 1) 0 0 :: zB9 d dk2 :: L)) := by
  subst hn; have hK := hM.toK; obtain ⟨pv, hs⟩ := hs.openL; have hen := Vw.apply_en (congrArg Prod.fst hap); have hok : EnOk (k, x) := ⟨hen.1, hen.2.1, hen.2.2, hsu⟩; obtain ⟨fr, hfr⟩ : ∃ fr, fr = frame (q + 1) (k, x) := ⟨_, rfl⟩; rw [← hfr] at hb ⊢; obtain ⟨ka, da, hap1, har, hac, hacase⟩ := hI.grow hmt hf (x := fr) hb hr; obtain ⟨rfl, hup, k2, d2, hsy, hsr, hsc, hscase⟩ := hacase.resolve_left (fun h => h.2.2.1 ha); obtain ⟨rfl, hup2, har2, hI2⟩ := hscase.resolve_right (fun h => h.2.2.1 ha); refine zAf Tryz.func52 rfl rfl ?_
  skip
  refine zA3 (zA2 ?_); refine zBi (v := .agg _) hs rfl rfl ?_; clear hs; intro b3 w hs
  try simp only [zzs, zzz] at hs
  refine zA rfl (zA0 (v := .nilIface) rfl) ?_; refine zA6 (zA3 (zA2 ?_)); refine zA rfl (zA1 (v := .pointer (some _)) rfl) ?_; refine zA rfl (zA8 rfl) ?_; refine zA rfl (zA5 (o' := 2) zD3 rfl sz54 rfl rfl rfl) ?_; refine zA rfl (zA7 uz54 rfl rfl (hs.cellAt 1 rfl rfl)) ?_; refine zAb rfl en56 (cloneq_sl (hs.arr [2, 0, 1, 3] 4 (by decide))) ?_; clear hs; rintro _ w ⟨u, rfl, hs⟩; refine zA rfl (zA0 (v := .pointer (some _)) rfl) ?_; refine zA6 ?_; refine zA3 ?_; refine zA3 (zA2 ?_); refine zA rfl (zA1 (v := .pointer (some _)) rfl) ?_; refine zA rfl (zB7 hs 2 rfl zEw sz121 rfl) ?_; refine zAb rfl en93 (applyq_sl hM.toV hs k hm.cons.cons.cons.cons hob) ?_; clear hs; rintro _ w ⟨eb, rfl, hs⟩
  rw [hap] at hs ⊢; replace hs := hs.tail; simp only at hs ⊢; refine zA rfl (zA0 (v := zAh ad _) rfl) ?_; refine zA6 (zA3 (zA2 ?_)); refine zA rfl (zA1 (v := zAh ad _) rfl) ?_; refine zA rfl (zAu (ad := ad) rfl) ?_; refine zA6 ?_; refine zB4 rfl (rfl) ?_; refine zAd ?_; refine zA3 ?_; refine zA3 (zA2 ?_); refine zA rfl (zA1 (v := .pointer (some _)) rfl) ?_; refine zA rfl (zA8 rfl) ?_; refine zA rfl (zA5 (o' := 3) zD3 rfl sz2 rfl rfl rfl) ?_; refine zA rfl (zA7 uz2 rfl rfl (hs.cellAt 3 rfl rfl)) ?_; refine zA rfl (zBp rfl rfl) ?_; refine zA6 ?_; refine zB4 rfl (decide_eq_false (by omega)) ?_; refine zAd ?_; refine zA3 ?_; refine zAo zBj hs ?_; intro w tr hK; replace hs := tr _ hs; clear tr
  refine zA4 0 rfl rfl (fun w hs => zA1 (v := .pointer (some _)) rfl) hK ?_; refine zA4 1 rfl rfl (fun w hs => zA8 rfl) hK ?_; refine zA4 2 rfl rfl (fun w hs => zA5 (o' := 3) zD3 rfl sz2 rfl rfl rfl) hK ?_; refine zA4 3 rfl rfl (fun w hs => zA7 uz2 rfl rfl (hs.cellAt 3 rfl rfl)) hK ?_; refine zA4 4 rfl rfl (fun w hs => zAs rfl rfl (c := ((q + 1 : Nat) : Int)) (by omega) (inI (by omega) (by omega))) hK ?_; refine zA4 5 rfl rfl (fun w hs => zB7 hs 2 rfl zEw sz121 rfl) hK ?_; refine zAe [6] ?_; refine ⟨⟨_, rfl, ?_⟩, trivial⟩; refine zAb rfl en94 (enBytes_sl hM.toV hs (q := q + 1) (by omega) hm.cons.cons.cons.cons.cons hok) ?_; clear hs; rintro _ w ⟨s33, rfl, hs⟩; rw [← hfr] at hs ⊢; clear hK
  have hK := hs.tail; refine zA6 ⟨hK, ?_⟩; refine zA4 7 rfl rfl (fun w hs => zA1 (v := .tuple _) rfl) hK ?_; refine zA4 8 rfl rfl (fun w hs => zAa (v := .slice _ _ _) rfl rfl) hK ?_; refine zA4 9 rfl rfl (fun w hs => zAa (v := .nilIface) rfl rfl) hK ?_; refine zA4 10 rfl rfl (fun w hs => zA0 (v := .slice _ _ _) rfl) hK ?_; refine zA4 11 rfl rfl (fun w hs => zA0 (v := .nilIface) rfl) hK ?_; refine zAt (by kernel_rfl) ?_; clear hK; refine zA3 ?_; refine zA3 (zA2 ?_); refine zA rfl (zA1 (v := .nilIface) rfl) ?_; refine zA rfl (zC8 rfl) ?_; refine zA6 ?_; refine zB4 rfl (rfl) ?_; refine zAd ?_; refine zA3 (zA2 ?_); refine zA rfl (zA1 (v := .pointer (some _)) rfl) ?_; refine zA rfl (zA8 rfl) ?_
  refine zA rfl (zA5 (o' := 0) zD3 rfl sz25 rfl rfl rfl) ?_; refine zA rfl (zA7 uz25 rfl rfl (hs.cellAt 4 rfl rfl)) ?_; refine zA rfl (zA1 (v := .slice _ _ _) rfl) ?_; refine zAb rfl en95 (append_sl hM.toK (hs.arr [5, 0, 1, 2, 3, 4] 6 (by decide)) (by omega) mtN (x := fr) (Rd.own 0 rfl) rfl (by omega) hap1) ?_; clear hs; rintro _ w ⟨rfl, hs⟩; refine zA rfl (zA0 (v := zAh ad _) rfl) ?_; refine zA6 ?_; refine zA3 ?_; refine zA3 (zA2 ?_); refine zA rfl (zA1 (v := zAh ad _) rfl) ?_; refine zA rfl (zDl (ad := ad) rfl) ?_; refine zA6 ?_; refine zBc rfl (rfl) ?_; refine zA3 (zA2 ?_); refine zA rfl (zA1 (v := .pointer (some _)) rfl) ?_; refine zA rfl (zA8 rfl) ?_
  refine zA rfl (zA5 (o' := 0) zD3 rfl sz25 rfl rfl rfl) ?_; refine zA rfl (zA7 uz25 rfl rfl (hs.cellAt 5 rfl rfl)) ?_; refine zAb rfl en96 (sync_sl hM.toK hs (by omega) mtN hsy) ?_; clear hs; rintro _ w ⟨rfl, hs⟩; refine zA rfl (zA0 (v := zAh ad _) rfl) ?_; refine zA6 (zA3 (zA2 ?_)); refine zA rfl (zA1 (v := zAh ad _) rfl) ?_; refine zA rfl (zAu (ad := ad) rfl) ?_; refine zA6 ?_; refine zB4 rfl (rfl) ?_; refine zAd ?_; refine zA3 ?_; refine zA3 (zA2 ?_); refine zA rfl (zA1 (v := zAh ad _) rfl) ?_; refine zA rfl (zAu (ad := ad) rfl) ?_; refine zA6 ?_; refine zB4 rfl (rfl) ?_; refine zAd ?_; refine zA3 ?_; have hI3 := hI2 (hs.openD).1; refine zAo zBj (hs.drop 5) ?_; intro w tr hK
  replace hs := tr _ hs; clear tr; refine zA4 0 rfl rfl (fun w hs => zA1 (v := .pointer (some _)) rfl) hK ?_; refine zA4 1 rfl rfl (fun w hs => zA1 (v := .pointer (some _)) rfl) hK ?_; refine zA4 2 rfl rfl (fun w hs => zA1 (v := .pointer (some _)) rfl) hK ?_; refine zA4 3 rfl rfl (fun w hs => zA1 (v := .pointer (some _)) rfl) hK ?_; refine zA4 4 rfl rfl (fun w hs => zA1 (v := .pointer (some _)) rfl) hK ?_; refine zA4 5 rfl rfl (fun w hs => zA8 rfl) hK ?_; refine zA4 6 rfl rfl (fun w hs => zA5 (o' := 3) zD3 rfl sz2 rfl rfl rfl) hK ?_; refine zA4 9 rfl rfl (fun w hs => zA1 (v := .pointer (some _)) rfl) hK ?_; refine zA4 10 rfl rfl (fun w hs => zA8 rfl) hK ?_
  refine zA4 11 rfl rfl (fun w hs => zA5 (o' := 5) zD3 rfl sz3 rfl rfl rfl) hK ?_; refine zA4 13 rfl rfl (fun w hs => zA1 (v := .slice _ _ _) rfl) hK ?_; refine zA4 14 rfl rfl (fun w hs => zAx zCi rfl) hK ?_; refine zAe [7, 12] ?_; refine ⟨⟨_, rfl, ?_⟩, ⟨_, rfl, ?_⟩, trivial⟩; refine zA rfl (zA7 uz2 rfl rfl (hs.cellAt 5 rfl rfl)) ?_; clear hK; have hK := hs.drop 5; refine zA6 ⟨hK, ?_⟩; refine zA4 8 rfl rfl (fun w hs => zAs rfl rfl (c := ((q + 1 : Nat) : Int)) (by omega) (inI (by omega) (by omega))) hK ?_; refine zAe [12] ?_; refine ⟨⟨_, rfl, ?_⟩, trivial⟩; refine zA rfl (zA7 uz3 rfl rfl (hs.cellAt 5 rfl rfl)) ?_; clear hK; have hK := hs.drop 5; refine zA6 ⟨hK, ?_⟩
  refine zA4 15 rfl rfl (fun w hs => zAs rfl rfl (c := ((mb.length + fr.length : Nat) : Int)) (by omega) (inI (by omega) (by omega))) hK ?_
  rotate_left
  refine zA rfl (zA7 uz3 rfl rfl (hs.cellAt 5 rfl rfl)) ?_; clear hK; have hK := hs.drop 5; refine zA6 ⟨hK, ?_⟩; refine zA4 15 rfl rfl (fun w hs => zAs rfl rfl (c := ((mb.length + fr.length : Nat) : Int)) (by omega) (inI (by omega) (by omega))) hK ?_; refine zAe [7] ?_; refine ⟨⟨_, rfl, ?_⟩, trivial⟩; refine zA rfl (zA7 uz2 rfl rfl (hs.cellAt 5 rfl rfl)) ?_; clear hK; have hK := hs.drop 5; refine zA6 ⟨hK, ?_⟩; refine zA4 8 rfl rfl (fun w hs => zAs rfl rfl (c := ((q + 1 : Nat) : Int)) (by omega) (inI (by omega) (by omega))) hK ?_
  rotate_left
  all_goals
   refine zA4 16 rfl rfl (fun w hs => zA8 rfl) hK ?_; refine zA4 17 rfl rfl (fun w hs => zA5 (o' := 2) zD3 rfl sz54 rfl rfl rfl) hK ?_; refine zAe [18] ?_; refine ⟨⟨_, rfl, ?_⟩, trivial⟩; refine zB1 (v := .pointer (some _)) hs 5 rfl sz54 rfl rfl rfl rfl ?_; clear hs; intro w hs
   try simp only [zzs, zzz] at hs
   clear hK; have hK := hs.drop 5; refine zA6 ⟨hK, ?_⟩; refine zA4 19 rfl rfl (fun w hs => zA8 rfl) hK ?_; refine zA4 20 rfl rfl (fun w hs => zA5 (o' := 3) zD3 rfl sz2 rfl rfl rfl) hK ?_; refine zAe [21] ?_; refine ⟨⟨_, rfl, ?_⟩, trivial⟩; refine zB1 (v := .int .i64 _) hs 5 rfl sz2 rfl rfl rfl rfl ?_; clear hs; intro w hs
   try simp only [zzs, zzz] at hs
   clear hK; have hK := hs.drop 5; refine zA6 ⟨hK, ?_⟩; refine zA4 22 rfl rfl (fun w hs => zA8 rfl) hK ?_; refine zA4 23 rfl rfl (fun w hs => zA5 (o' := 5) zD3 rfl sz3 rfl rfl rfl) hK ?_; refine zAe [24] ?_; refine ⟨⟨_, rfl, ?_⟩, trivial⟩; refine zB1 (v := .int .i64 _) hs 5 rfl sz3 rfl rfl rfl rfl ?_; clear hs; intro w hs
   try simp only [zzs, zzz] at hs
   clear hK; have hK := hs.drop 5; refine zA6 ⟨hK, ?_⟩; refine zAt (by kernel_rfl) ?_; clear hK; refine zA3 ?_; refine zA3 (zA2 ?_); refine zA rfl (zA1 (v := .pointer (some _)) rfl) ?_; refine zA rfl (zA8 rfl) ?_; refine zA rfl (zA5 (o' := 4) zD3 rfl sz3 rfl rfl rfl) ?_; refine zA rfl (zA7 uz3 rfl rfl (hs.cellAt 5 rfl rfl)) ?_; refine zA rfl (zAs rfl rfl (c := ((c + 1 : Nat) : Int)) (by omega) (inI (by omega) (by omega))) ?_; refine zA rfl (zA8 rfl) ?_; refine zA rfl (zA5 (o' := 4) zD3 rfl sz3 rfl rfl rfl) ?_; refine zB1 (v := .int .i64 _) hs 5 rfl sz3 rfl rfl rfl rfl ?_; clear hs; intro w hs
   try simp only [zzs, zzz] at hs
   refine zA6 ?_; refine zA3 ?_; refine zAo zBj hs ?_; intro w tr hK; replace hs := tr _ hs; clear tr; refine zA4 0 rfl rfl (fun w hs => zA1 (v := .pointer (some _)) rfl) hK ?_; refine zA4 1 rfl rfl (fun w hs => zA8 rfl) hK ?_; refine zA4 2 rfl rfl (fun w hs => zA5 (o' := 4) zD3 rfl sz3 rfl rfl rfl) hK ?_; refine zA4 3 rfl rfl (fun w hs => zA7 uz3 rfl rfl (hs.cellAt 5 rfl rfl)) hK ?_; refine zA4 4 rfl rfl (fun w hs => zA1 (v := .pointer (some _)) rfl) hK ?_; refine zA4 5 rfl rfl (fun w hs => zA8 rfl) hK ?_; refine zA4 6 rfl rfl (fun w hs => zA5 (o' := 1) zD3 rfl sz3 rfl rfl rfl) hK ?_; refine zA4 7 rfl rfl (fun w hs => zA7 uz3 rfl rfl (hs.cellAt 5 rfl rfl)) hK ?_
   refine zA4 8 rfl rfl (fun w hs => zD rfl rfl) hK ?_; refine zAt (by kernel_rfl) ?_; clear hK; refine zBc rfl (decide_eq_true (by omega)) ?_; refine zA2 ?_; refine zA rfl (zA1 (v := .pointer (some _)) rfl) ?_; refine zAb rfl en98 (snapN_sl (q := q + 1) (c := c + 1) (n := mb.length + fr.length) (mb := mb ++ fr) hM (Mem.closeL (hs.arr [5, 2, 0] 6 (by decide))) hI3 hmt hsn hNn (har2 ha) (zFg _ _ _) (by omega) hB (by rw [hsr]; exact hr) hu1 hl1 (by omega)) ?_; clear hs; rintro _ w ⟨d3, rfl, ⟨r1, r2, r3, hI4⟩, hs⟩; refine zA6 (zA3 (zA2 ?_)); refine zA rfl (zA0 (v := .nilIface) rfl) ?_; refine zA6 ?_; refine zAc ?_; refine zBg (v := .nilIface) rfl rfl ?_
   exact ⟨_, rfl, d3, (zAz ad).symm, ⟨r1.trans hsr, by omega, r3, hI4⟩, hs⟩
end
section
open Go.RowKit
attribute [local irreducible] zAh eV
variable {g w : World} {L M : List HP} {ad : Nat → Addr} {p u n q c d l id : Nat} {dk : Dk} {st : St} {t : UpT} {a : S4} {ov cl : Bool} {V V0 V1 V2 : Vw} {osb K : List (ByteArray × List UInt8)}
theorem upN_snew : ∀ n ∈ UpN, zC5 snN ≠ n := by decide +kernel
def UgS (Q : Nat) (V : Vw) (q c n : Nat) (dk : Dk) : Prop := q ≤ Q ∧ c ≤ 2 ∧ n ≤ c * 6021 ∧ V.sums ∧ dk.armed = 0 ∧ dk.room = 262144 ∧ ∃ f mb, RawI UpN 20000 f dk ∧ f mtN = some mb ∧ mb.length = n
theorem ugS_app (hM : ErrM ad g) {Q : Nat} {k : Int} {m : Mf} {s1 s2 : SA} (hQ : Q ≤ 100) (hap : V.apply k m = ((0, none), V1)) (hl1 : V1.length ≤ 2) (hob : m.obs.length ≤ 1000000) (hsu : ∀ o ∈ m.obs, o.2.2 < 4294967296) (hl : UgS Q V q c n dk) (hcl : dk.calls < 700000) (hs : Mem g w (zD2 l d 3 V q c n :: zB9 d dk :: M)) (hmr : MfR g M m s1 s2) :
    Calls Tryz.prog 52 #[.pointer (some ⟨l, 0, none⟩), .agg (.int .i64 k :: mfL m s1 s2).toArray] w (Ret fun v w' => ∃ kr dk2 V' q' c' n', v = zAh ad kr ∧ (kr = 0 ∧ V' = V1 ∧ UgS (Q + 1) V1 q' c' n' dk2 ∧ dk2.calls ≤ dk.calls + 40) ∧ Mem g w' (zD2 l d 3 V' q' c' n' :: zB9 d dk2 :: M)) := by
  obtain ⟨hq, hc, hn, hu, ha, hr, f, mb, hI, hf, hmb⟩ := hl; have hen := Vw.apply_en (congrArg Prod.fst hap); have hfr := frame_le (q := q + 1) (e := (k, m)) ⟨hen.1, hen.2.1, hen.2.2, hsu⟩; have hu1 := Vw.apply_sums hu (k := k) hsu; rw [hap] at hu1
  have h3 : 2 * UpN.length * 20000 + 20000 ≤ dk.room := by rw [hr]; decide
  have hnb : mb.length + (frame (q + 1) (k, m)).length ≤ 20000 := by
    have : c * 6021 ≤ 2 * 6021 := Nat.mul_le_mul_right _ hc
    omega
  by_cases h : c + 1 < 3
  · refine (appN_sl hM hs hI up_mt (by decide) hf hmb.symm (by omega) h3 (by omega) h (by decide) hnb hmr hob hsu (by rw [hap])).mono ?_
    rintro _ w' ⟨v, rfl, kr, dk2, V', q', c', n', rfl, ⟨r1, r2, ⟨rfl, _, r3, rfl, rfl, rfl, rfl, r4⟩ | ⟨_, _, r3, _⟩⟩, hs⟩
    · refine ⟨_, rfl, 0, dk2, _, _, _, _, rfl, ⟨rfl, by rw [hap], ⟨by omega, by omega, by rw [Nat.add_mul, Nat.one_mul]; omega, hu1, r3 ha, by rw [r1, hr], _, _, r4, zFg _ _ _, by rw [List.length_append]⟩, by omega⟩, hs⟩
    · exact absurd ha r3
  · refine (appS_sl hM hs hI up_mt up_sn upN_snew ha (by decide) hf hmb.symm (by omega) h3 (by omega) (by omega) (by omega) hnb hmr hob hsu hap hu1 hl1).mono ?_
    rintro _ w' ⟨v, rfl, dk2, rfl, ⟨r1, r2, r3, r4⟩, hs⟩; exact ⟨_, rfl, 0, dk2, V1, q + 1, 0, 0, rfl, ⟨rfl, rfl, ⟨by omega, by omega, by omega, hu1, r3, by rw [r1, hr], _, [], r4, zFg _ _ _, rfl⟩, by omega⟩, hs⟩
theorem lgS (hM : ErrM ad g) {Q : Nat} (hQ : Q ≤ 90) (b : Bool) (hb : b = true → V0.apply 1 t.m = ((0, none), V1)) (h2 : V1.apply 2 t.m = ((0, none), V2)) (s0 : V0.state t.m.id = 0) (s1 : V1.state t.m.id = 1) (s2 : V2.state t.m.id = 2) (hl1 : V1.length ≤ 2) (hl2 : V2.length ≤ 2) (hob : t.m.obs.length ≤ 1000000) (hsu : ∀ o ∈ t.m.obs, o.2.2 < 4294967296) :
    LgC ad g t (fun j V q c n dk => (j = 0 → b = true) ∧ UgS (Q + j) V q c n dk) V0 V1 V2 := by
  refine ⟨fun hl hc hs hm => ?_, fun hl hc hs hm => ?_, fun {q c n dk s} hl h4 => ?_, fun {q c n dk} hl => ?_, s0, s1, s2⟩
  · refine (ugS_app hM (by omega) (hb (hl.1 rfl)) hl1 hob hsu hl.2 hc hs hm).mono ?_
    rintro _ w' ⟨v, rfl, kr, dk2, V', q', c', n', rfl, ⟨rfl, rfl, hl', hc'⟩, hs⟩; exact ⟨_, rfl, 0, dk2, _, q', c', n', rfl, ⟨rfl, rfl, ⟨fun h => (by cases h), hl'⟩, hc'⟩, hs⟩
  · refine (ugS_app hM (by omega) h2 hl2 hob hsu hl.2 hc hs hm).mono ?_
    rintro _ w' ⟨v, rfl, kr, dk2, V', q', c', n', rfl, ⟨rfl, rfl, hl', hc'⟩, hs⟩; exact ⟨_, rfl, 0, dk2, _, q', c', n', rfl, ⟨rfl, rfl, ⟨fun h => (by cases h), hl'⟩, hc'⟩, hs⟩
  · obtain ⟨h0, r1, r2, hn, hu, ha, hr, f, mb, hI, hf, hmb⟩ := hl
    have h3 : 2 * UpN.length * 20000 + 20000 ≤ dk.room := by rw [hr]; decide
    obtain ⟨k, e, h5, h6, h7, ⟨rfl, _, h8, h9⟩ | ⟨_, _, h8, _⟩⟩ := hI.jput up_up upN_new h4 (by decide) h3
    · exact ⟨e, h5, by omega, fun he => ⟨h0, r1, r2, hn, hu, h8 ha, by rw [h6, hr], _, mb, h9 he, by rw [zG5 _ _ mt_up]; exact hf, hmb⟩⟩
    · exact absurd ha h8
  · obtain ⟨h0, r1, r2, hn, hu, ha, hr, f, mb, hI, hf, hmb⟩ := hl
    obtain ⟨e, h5, h6, h7, h8, h9⟩ := hI.jgone ha up_up; exact ⟨e, h5, by omega, fun he => ⟨⟨h0, r1, r2, hn, hu, h8, by rw [h6, hr], _, mb, h9 he, by rw [clrF_other mt_up]; exact hf, hmb⟩, ⟨_, _, h9 he, clrF_same _⟩⟩⟩
theorem ends_sl (hE : ErrU ad g) (hU : UpOk osb t) (hK : ∀ x ∈ K, x ∈ osb) {Lg : Nat → Vw → Nat → Nat → Nat → Dk → Prop} (hL : LgC ad g t Lg V0 V1 V2) {s tr ak cb M0 : Nat} (hI : StI osb K t cl Lg V0 V1 V2 s a ov V q c n dk st M0) (hs2 : s ≠ 2) (hB : Bnd cb ak st dk) (hcb : cb ≤ 400000) (htr : tr + 1 ≤ 8) (hsc : st.script = []) (hM : uLeft s st M0 ≤ 480)
    (hs : Mem g w (UpC u t a ov :: zB8 t.c p ((tr + 1 : Nat) : Int) (ak : Nat) :: zB6 p st :: zD2 t.l t.d 3 V q c n :: zB9 t.d dk :: L)) :
    Calls Tryz.prog 17 #[.pointer (some ⟨u, 0, none⟩)] w (Ret fun v w' => v = .bool true ∧ ∃ ak' a' ov' V' q' c' n' dk' st' M', StI osb K t cl Lg V0 V1 V2 2 a' ov' V' q' c' n' dk' st' M' ∧ Bnd (cb + 50000) ak' st' dk' ∧ st'.script = [] ∧ Mem g w' (UpC u t a' ov' :: zB8 t.c p ((tr + 1 : Nat) : Int) (ak' : Nat) :: zB6 p st' :: zD2 t.l t.d 3 V' q' c' n' :: zB9 t.d dk' :: L)) := by
  refine zAf Tryz.func17 rfl rfl ?_
  skip
  refine zA3 (zA2 ?_); refine zA rfl (zA0 (v := .bool _) rfl) ?_; refine zA6 ?_; refine zA3 ?_; refine zA3 (zA2 ?_); refine zA rfl (zA0 (v := .int .i64 _) rfl) ?_; refine zA6 ?_; refine zAn ?_; refine zBt (X := Nat) [2, 3, 4, 5, 6, 7, 8, 9, 10, 11, 12, 13, 14, 15, 16, 17] (fun i => [(3, .int .i64 (i : Nat))]) (fun i w => i ≤ 480 ∧ ∃ ak s a ov V q c n dk st M0, StI osb K t cl Lg V0 V1 V2 s a ov V q c n dk st M0 ∧ s ≠ 2 ∧ i + uLeft s st M0 ≤ 480 ∧ Bnd (cb + 100 * i) ak st dk ∧ st.script = [] ∧ Mem g w (UpC u t a ov :: zB8 t.c p ((tr + 1 : Nat) : Int) (ak : Nat) :: zB6 p st :: zD2 t.l t.d 3 V q c n :: zB9 t.d dk :: L)) (fun i => 500 - i) (0) ?_ ?_ ?_
  · exact ⟨rfl, trivial⟩
  · exact ⟨Nat.zero_le _, ak, s, a, ov, V, q, c, n, dk, st, M0, hI, hs2, by omega, hB, hsc, hs⟩
  clear hs; rintro x ξ w hI; obtain ⟨hi, ak, s, a, ov, V, q, c, n, dk, st, M0, hI, hs2, hle, hB, hsc, hs⟩ := hI; refine zA3 ?_; refine zA3 (zA2 ?_); refine zA rfl (zA1 (v := .int .i64 _) rfl) ?_; refine zA rfl (zBb rfl rfl) ?_; refine zA6 ?_; refine zBc rfl ((decide_eq_true (show (x : Int) < 500 by omega))) ?_; refine zAd ?_; refine zA3 ?_; refine zAn ?_; refine zA3 (zA2 ?_); refine zA rfl (zA1 (v := .pointer (some _)) rfl) ?_; refine zAb rfl en16 (upStep hE hU hK hL hI hB (by omega) htr hs) ?_; clear hs; rintro _ w ⟨is, y, s', a', ov', V', q', c', n', dk', st', ak', M', rfl, hI', hB', hy, his, hst, hlt, hcl, hs⟩
  obtain rfl : 0 = y := by rcases hy with h | h; exact h.symm; exact absurd hsc h.2.2.2.2
  have hlt2 := hlt hs2; refine zA rfl (zA1 (v := .tuple _) rfl) ?_; refine zA rfl (zAa (v := .bool _) rfl rfl) ?_; refine zA rfl (zAa (v := zAh ad _) rfl rfl) ?_; refine zA rfl (zA0 (v := .bool _) rfl) ?_; refine zA rfl (zA0 (v := zAh ad _) rfl) ?_; refine zA6 ?_; refine zA3 ?_; refine zA3 (zA2 ?_); refine zA rfl (zA1 (v := zAh ad _) rfl) ?_; refine zA rfl (zAu (ad := ad) rfl) ?_; refine zA6 ?_; refine zB4 rfl (rfl) ?_; refine zAd ?_; refine zA3 (zA2 ?_); refine zA rfl (zA1 (v := .bool _) rfl) ?_; refine zA6 ?_; refine zB0 rfl ?_ ?_
  ·
   intro h13; refine zA3 (zA2 ?_); refine zA rfl (zA0 (v := .bool _) rfl) ?_; refine zA6 ?_; refine zAc ?_; refine zBg (v := .bool _) rfl rfl ?_; obtain rfl : s' = 2 := of_decide_eq_true (his.symm.trans h13); exact ⟨_, rfl, rfl, ak', a', ov', V', q', c', n', dk', st', M', hI', by obtain ⟨b1, b2, b3, b4, b5⟩ := hB'; exact ⟨by omega, by omega, by omega, by omega, by omega⟩, hst.2 hsc, hs⟩
  ·
   intro h13; refine zAd ?_; refine zA2 ?_; refine zA rfl (zA1 (v := .int .i64 _) rfl) ?_; refine zA rfl (zAs rfl rfl rfl (inI (by omega) (by omega))) ?_; refine zA rfl (zA0 (v := .int .i64 _) rfl) ?_; refine zA6 ?_; exact ⟨x + 1, by omega, ⟨by omega, ak', s', a', ov', V', q', c', n', dk', st', M', hI', (fun h => by rw [h, h13] at his; cases his), by omega, hB', hst.2 hsc, hs⟩, ⟨rfl, trivial⟩, by repeat (first | exact Out.mix _ _ _ | refine Out.updo rfl ?_ | refine Out.upd rfl ?_ | refine Out.mixIn rfl ?_)⟩
end
section
open Go.RowKit
attribute [local irreducible] zAh eV
variable {g w : World} {L M : List HP} {ad : Nat → Addr} {p u n q c d l id base : Nat} {fin time : Int} {pl : List Pr} {dk : Dk} {st : St} {x y : List UInt8} {s1 s2 s3 s4 : SA} {xs : List (List UInt8 × SA)} {V V0 V1 V2 : Vw} {K K' osb : List (ByteArray × List UInt8)} {a : S4} {ov cl : Bool} {t : UpT}
structure ManG (id base : Nat) (fin time : Int) (pl : List Pr) : Prop where
  h0 : mfF ⟨id, base, fin, time, pl, [(zCd id zE5 base, 0, 0), (zCd id zD7 base, 0, 0)]⟩ = (0, none)
  v1 : zBq (zCd id zE5 base).data.toList = true
  v2 : zBq (zCd id zD7 base).data.toList = true
  le : id ≤ 2147483647
def gOs (id base : Nat) (x y : List UInt8) : List (ByteArray × List UInt8) := [(zCd id zE5 base, x), (zCd id zD7 base, y)]
theorem ManG.mf (h : ManG id base fin time pl) (hx : x.length ≤ 256) (hy : y.length ≤ 256) : mfF (mkG id base fin time pl x y) = (0, none) := mkG_F h.h0 (by omega) (by omega)
theorem ManG.up (h : ManG id base fin time pl) (hx : x.length ≤ 256) (hy : y.length ≤ 256) {each : Int} (he : 1 ≤ each ∧ each ≤ 1000) : (upF each (mkG id base fin time pl x y) [x, y]).1 = 0 :=
  upF_two he (by rw [h.mf hx hy]) rfl (obG_fine he hx h.v1 rfl rfl) (obG_fine he hy h.v2 rfl rfl)
theorem mkG_sum : ∀ o ∈ (mkG id base fin time pl x y).obs, o.2.2 < 4294967296 := fun o ho => by
  have ho : o ∈ [(zCd id zE5 base, ((x.length : Nat) : Int), zBz 0 x), (zCd id zD7 base, ((y.length : Nat) : Int), zBz 0 y)] := ho; simp only [List.mem_cons, List.not_mem_nil, or_false] at ho
  rcases ho with rfl | rfl
  · exact crcMore_lt (by decide) _
  · exact crcMore_lt (by decide) _
theorem ManG.upOk (h : ManG id base fin time pl) (hx : x.length ≤ 256) (hy : y.length ≤ 256) {e : Nat} (he : 1 ≤ e ∧ e ≤ 1000) (hxs : xs.map (·.1) = [x, y]) (hO : OsF osb) (hs : ∀ o ∈ gOs id base x y, o ∈ osb) : UpOk osb ⟨d, l, c, mkG id base fin time pl x y, s1, s2, e, xs, s3, s4⟩ :=
  upOk_mk (each := ((e : Nat) : Int)) (bs := [x, y]) (by omega) hxs rfl (by simp) hO hs ⟨by show (0 : Int) ≤ ((id : Nat) : Int); omega, by have := h.le; show ((id : Nat) : Int) ≤ _; omega⟩
theorem g_osU {e : Nat} (hxs : xs.map (·.1) = [x, y]) : osU ⟨d, l, c, mkG id base fin time pl x y, s1, s2, e, xs, s3, s4⟩ = gOs id base x y := osU_eq (xs := xs) (bs := [x, y]) hxs
theorem osF_of {l : List (ByteArray × List UInt8)} (hn : (l.map Prod.fst).Nodup) (h : ∀ o ∈ l, o.2.length ≤ 256 ∧ zBq o.1.data.toList = true) : OsF l := by
  refine ⟨fun n b b' h1 h2 => ?_, fun n b h1 => (h _ h1).1, fun n b h1 => (h _ h1).2⟩
  induction l with
  | nil => cases h1
  | cons o l ih =>
    rw [List.map_cons, List.nodup_cons] at hn
    rcases List.mem_cons.1 h1 with e1 | e1 <;> rcases List.mem_cons.1 h2 with e2 | e2
    · rw [← e1] at e2; exact (congrArg Prod.snd e2).symm
    · exact absurd (List.mem_map_of_mem (f := Prod.fst) e2) (by rw [← e1] at hn; exact hn.1)
    · exact absurd (List.mem_map_of_mem (f := Prod.fst) e1) (by rw [← e2] at hn; exact hn.1)
    · exact ih hn.2 (fun o ho => h o (List.mem_cons_of_mem _ ho)) e1 e2
theorem PIn.weak (h : PIn osb K st) (hk : ∀ x ∈ K', x ∈ K) : PIn osb K' st := ⟨h.small, h.objs, fun x hx => h.kept x (hk x hx), h.nd, h.rng, h.len⟩
theorem StI.pin {Lg : Nat → Vw → Nat → Nat → Nat → Dk → Prop} {s M0 : Nat} (h : StI osb K t cl Lg V0 V1 V2 s a ov V q c n dk st M0) : PIn osb (K ++ if s = 2 then osU t else []) st := by
  obtain ⟨_, _, ⟨rfl, _, _, hp, _⟩ | ⟨rfl, _, M1, hob, _⟩ | ⟨rfl, _, hp, _⟩⟩ := h
  · rw [if_neg (by decide), List.append_nil]; exact hp
  · rw [if_neg (by decide), List.append_nil]
    rcases hob with ⟨k, o, uid, done, m, ho, _, hp, _⟩ | ⟨_, hp, _⟩
    · exact hp.weak fun x hx => List.mem_append_left _ hx
    · exact hp.weak fun x hx => List.mem_append_left _ hx
  · rw [if_pos rfl]; exact hp
theorem UgS.mono {Q Q' : Nat} (h : UgS Q V q c n dk) (hq : Q ≤ Q') : UgS Q' V q c n dk := ⟨Nat.le_trans h.1 hq, h.2⟩
theorem UgS.jany {Q : Nat} (h : UgS Q V q c n dk) : ∃ (is : Bool) (z : S4), jst (dk.pread nUp) = (0, is, z.1, z.2.1, z.2.2.1, z.2.2.2) ∧ 0 ≤ z.2.1 := by
  obtain ⟨_, _, _, _, _, _, f, mb, hI, _⟩ := h; exact hI.jany up_up
theorem GoneJ.jst (h : GoneJ dk) : jst (dk.pread nUp) = (0, false, 0, 0, 0, 0) := by
  obtain ⟨B, f, hI, hf⟩ := h; exact hI.jnone up_up hf
theorem man1G : ManG 1 10 20 5 [(1, 10)] := ⟨by decide +kernel, by decide +kernel, by decide +kernel, by decide⟩
theorem man2G : ManG 2 20 30 0 [(1, 20)] := ⟨by decide +kernel, by decide +kernel, by decide +kernel, by decide⟩
abbrev zDo (x y : List UInt8) : Mf := mkG 2 20 30 0 [(1, 20)] x y
def osb2 (x y : List UInt8) : List (ByteArray × List UInt8) := gOs 1 10 x y ++ gOs 2 20 y x
theorem osb2_F (hx : x.length ≤ 256) (hy : y.length ≤ 256) : OsF (osb2 x y) := by
  refine osF_of (l := osb2 x y) ?_ (fun o ho => ?_)
  · show ([zCd 1 zE5 10, zCd 1 zD7 10, zCd 2 zE5 20, zCd 2 zD7 20] : List ByteArray).Nodup
    decide +kernel
  · have ho : o ∈ [(zCd 1 zE5 10, x), (zCd 1 zD7 10, y), (zCd 2 zE5 20, y), (zCd 2 zD7 20, x)] := ho
    simp only [List.mem_cons, List.not_mem_nil, or_false] at ho
    rcases ho with rfl | rfl | rfl | rfl
    · exact ⟨hx, man1G.v1⟩
    · exact ⟨hy, man1G.v2⟩
    · exact ⟨hy, man2G.v1⟩
    · exact ⟨hx, man2G.v2⟩
theorem rest_two {e : Nat} (he : 1 ≤ e) (hx : x.length ≤ 100) (hy : y.length ≤ 100) : restM e (gOs id base x y) ≤ 204 := by
  have h1 := zCt (n := x.length) he; have h2 := zCt (n := y.length) he; simp only [restM, gOs, List.map_cons, List.map_nil, List.sum_cons, List.sum_nil]
  omega
theorem Bnd.mono {cb cb' ak : Nat} (h : Bnd cb ak st dk) (hc : cb ≤ cb') : Bnd cb' ak st dk := ⟨Nat.le_trans h.1 hc, Nat.le_trans h.2.1 hc, Nat.le_trans h.2.2.1 hc, Nat.le_trans h.2.2.2.1 hc, Nat.le_trans h.2.2.2.2 hc⟩
def vU (s : Nat) (x y : List UInt8) : Vw := vAt [] [(((1 : Nat) : Int), ⟨1, zBl 1 x y⟩)] [(((1 : Nat) : Int), ⟨2, zBl 1 x y⟩)] s
theorem vU_two (s : Nat) (x y : List UInt8) : zAw (vU s x y) ((2 : Nat) : Int) = none ∧ (vU s x y).length ≤ 1 := by
  unfold vU vAt
  split <;> exact ⟨by simp [zAw], by simp⟩
theorem vU_one {s : Nat} (h : s ≤ 2) (x y : List UInt8) (i : Itm) : Vw.state (vU s x y ++ [(((2 : Nat) : Int), i)]) 1 = s := by
  rcases (show s = 0 ∨ s = 1 ∨ s = 2 by omega) with rfl | rfl | rfl <;> simp [vU, vAt, Vw.state, zAw]
theorem lgOne (hM : ErrM ad g) (hx : x.length ≤ 256) (hy : y.length ≤ 256) {e : Nat} : LgC ad g ⟨d, l, c, zBl 1 x y, s1, s2, e, xs, s3, s4⟩ (fun j V q c n dk => (j = 0 → true = true) ∧ UgS (0 + j) V q c n dk) [] [(((1 : Nat) : Int), ⟨1, zBl 1 x y⟩)] [(((1 : Nat) : Int), ⟨2, zBl 1 x y⟩)] :=
  lgS (t := ⟨d, l, c, zBl 1 x y, s1, s2, e, xs, s3, s4⟩) hM (by decide) true (fun _ => Vw.apply_first (by rw [man1G.mf hx hy]) rfl (by decide)) (Vw.apply_last (V := []) (s := 1) (k := 2) (by rw [man1G.mf hx hy]) rfl rfl) rfl (by simp [Vw.state, zAw, mkG]) (by simp [Vw.state, zAw, mkG]) (by simp) (by simp) (show 2 ≤ 1000000 by decide) mkG_sum
theorem lgTwo (hM : ErrM ad g) (hx : x.length ≤ 256) (hy : y.length ≤ 256) {e : Nat} (s : Nat) (x' y' : List UInt8) : LgC ad g ⟨d, l, c, zDo x y, s1, s2, e, xs, s3, s4⟩ (fun j V q c n dk => (j = 0 → true = true) ∧ UgS (2 + j) V q c n dk) (vU s x' y') (vU s x' y' ++ [(((2 : Nat) : Int), ⟨1, zDo x y⟩)]) (vU s x' y' ++ [(((2 : Nat) : Int), ⟨2, zDo x y⟩)]) := by
  obtain ⟨h1, h2⟩ := vU_two s x' y'
  have hm : (mfF (zDo x y)).1 = 0 := by rw [man2G.mf hx hy]
  exact lgS (t := ⟨d, l, c, zDo x y, s1, s2, e, xs, s3, s4⟩) hM (by decide) true (fun _ => Vw.apply_first (x := zDo x y) hm h1 (by omega)) (Vw.apply_last (x := zDo x y) (s := 1) (k := 2) hm h1 rfl) (by show Vw.state (vU s x' y') ((2 : Nat) : Int) = 0; rw [Vw.state, h1]; rfl) (by show Vw.state _ ((2 : Nat) : Int) = 1; simp only [Vw.state, aget_last h1]; rfl) (by show Vw.state _ ((2 : Nat) : Int) = 2; simp only [Vw.state, aget_last h1]; rfl) (by rw [List.length_append]; simp; omega) (by rw [List.length_append]; simp; omega) (show 2 ≤ 1000000 by decide) mkG_sum
theorem third_sl (hE : ErrU ad g) (hx : x.length ≤ 100) (hy : y.length ≤ 100) {e s ak cb : Nat} (he : 1 ≤ e ∧ e ≤ 1000) (hxs : xs.map (·.1) = [x, y]) (hs2 : s ≤ 1) {x' y' : List UInt8} (hO : OsF osb) (hsub : ∀ o ∈ gOs 1 10 x y, o ∈ osb) (hK : ∀ o ∈ K, o ∈ osb) (hp : PIn osb K st) (hsc : st.script = []) (hl : UgS 4 (vU s x y ++ [(((2 : Nat) : Int), ⟨2, zDo x' y'⟩)]) q c n dk) (hB : Bnd cb ak st dk) (hcb : cb ≤ 200000)
    (hs : Mem g w (UpC u ⟨d, l, id, zBl 1 x y, s1, s2, e, xs, s3, s4⟩ (((1 : Nat) : Int), 0, 0, 0) false :: zB8 id p ((0 + 1 : Nat) : Int) (ak : Nat) :: zB6 p st :: zD2 l d 3 (vU s x y ++ [(((2 : Nat) : Int), ⟨2, zDo x' y'⟩)]) q c n :: zB9 d dk :: L)) :
    Calls Tryz.prog 17 #[.pointer (some ⟨u, 0, none⟩)] w (Ret fun v w' => v = .bool true ∧ ∃ st', PIn osb (K ++ gOs 1 10 x y) st' ∧ Mem g w' (zB6 p st' :: L)) := by
  have hU : UpOk osb ⟨d, l, id, zBl 1 x y, s1, s2, e, xs, s3, s4⟩ := man1G.upOk (by omega) (by omega) he hxs hO hsub; have hosu : osU (⟨d, l, id, zBl 1 x y, s1, s2, e, xs, s3, s4⟩ : UpT) = gOs 1 10 x y := g_osU hxs
  have hm : (mfF (zBl 1 x y)).1 = 0 := by rw [man1G.mf (by omega) (by omega)]
  have hrl : restM e (gOs 1 10 x y) ≤ 204 := by
    have h1 := zCt (n := x.length) he.1; have h2 := zCt (n := y.length) he.1; simp only [restM, gOs, List.map_cons, List.map_nil, List.sum_cons, List.sum_nil]
    omega
  have fin : ∀ {Lg : Nat → Vw → Nat → Nat → Nat → Dk → Prop} {V0 V1 V2 : Vw} {s M0 : Nat}, LgC ad g ⟨d, l, id, zBl 1 x y, s1, s2, e, xs, s3, s4⟩ Lg V0 V1 V2 → StI osb K ⟨d, l, id, zBl 1 x y, s1, s2, e, xs, s3, s4⟩ false Lg V0 V1 V2 s (((1 : Nat) : Int), 0, 0, 0) false (vU s x y ++ [(((2 : Nat) : Int), ⟨2, zDo x' y'⟩)]) q c n dk st M0 → s ≠ 2 → uLeft s st M0 ≤ 480 → Mem g w (UpC u ⟨d, l, id, zBl 1 x y, s1, s2, e, xs, s3, s4⟩ (((1 : Nat) : Int), 0, 0, 0) false :: zB8 id p ((0 + 1 : Nat) : Int) (ak : Nat) :: zB6 p st :: zD2 l d 3 (vU s x y ++ [(((2 : Nat) : Int), ⟨2, zDo x' y'⟩)]) q c n :: zB9 d dk :: L) → Calls Tryz.prog 17 #[.pointer (some ⟨u, 0, none⟩)] w (Ret fun v w' => v = .bool true ∧ ∃ st', PIn osb (K ++ gOs 1 10 x y) st' ∧ Mem g w' (zB6 p st' :: L)) := by
    intro Lg V0 V1 V2 s M0 hL hI h2 hM hs; refine (ends_sl (p := p) (tr := 0) hE hU hK hL hI h2 hB (by omega) (by omega) hsc hM hs).mono ?_; rintro _ w' ⟨v, rfl, rfl, ak', a', ov', V', q', c', n', dk', st', M', hI', _, _, hs⟩; obtain ⟨_, _, hp', _⟩ := hI'.done; rw [hosu] at hp'; exact ⟨_, rfl, rfl, st', hp', hs.arr [2] 5 (by decide)⟩
  rcases (show s = 0 ∨ s = 1 by omega) with rfl | rfl
  · have hL := lgS (V0 := [(((2 : Nat) : Int), ⟨2, zDo x' y'⟩)]) (V1 := [(((2 : Nat) : Int), ⟨2, zDo x' y'⟩)] ++ [(((1 : Nat) : Int), ⟨1, zBl 1 x y⟩)]) (V2 := [(((2 : Nat) : Int), ⟨2, zDo x' y'⟩)] ++ [(((1 : Nat) : Int), ⟨2, zBl 1 x y⟩)]) (t := ⟨d, l, id, zBl 1 x y, s1, s2, e, xs, s3, s4⟩) (Q := 4) hE.uM (by decide) true (fun _ => Vw.apply_first (x := zBl 1 x y) hm (by simp [zAw, mkG]) (by simp)) (Vw.apply_last (x := zBl 1 x y) (s := 1) (k := 2) hm (by simp [zAw, mkG]) rfl) (by simp [Vw.state, zAw, mkG]) (by simp [Vw.state, zAw, mkG]) (by simp [Vw.state, zAw, mkG]) (by simp) (by simp) (show 2 ≤ 1000000 by decide) mkG_sum
    exact fin (s := 0) hL ⟨rfl, ⟨fun _ => rfl, hl⟩, .inl ⟨rfl, rfl, rfl, hp, fun h => (by cases h), rfl⟩⟩ (by decide) (by rw [uLeft0, tLeft, if_pos hsc, hsc, hosu]; simp only [List.length_nil, Nat.add_sub_cancel]; omega) hs
  · have hap : Vw.apply ([(((1 : Nat) : Int), ⟨1, zBl 1 x y⟩)] ++ [(((2 : Nat) : Int), ⟨2, zDo x' y'⟩)]) 2 (zBl 1 x y) = ((0, none), [(((1 : Nat) : Int), ⟨2, zBl 1 x y⟩)] ++ [(((2 : Nat) : Int), ⟨2, zDo x' y'⟩)]) := by
      rw [Vw.apply_old (i := ⟨1, zBl 1 x y⟩) hm (by omega) (by simp [Vw.state, zAw, mkG, nextB]) (by simp [zAw, mkG]), if_pos rfl]
      simp [zBx, mkG]
    have hL := lgS (V0 := []) (V1 := [(((1 : Nat) : Int), ⟨1, zBl 1 x y⟩)] ++ [(((2 : Nat) : Int), ⟨2, zDo x' y'⟩)]) (V2 := [(((1 : Nat) : Int), ⟨2, zBl 1 x y⟩)] ++ [(((2 : Nat) : Int), ⟨2, zDo x' y'⟩)]) (t := ⟨d, l, id, zBl 1 x y, s1, s2, e, xs, s3, s4⟩) (Q := 3) hE.uM (by decide) false (fun h => by cases h) hap rfl (by simp [Vw.state, zAw, mkG]) (by simp [Vw.state, zAw, mkG]) (by simp) (by simp) (show 2 ≤ 1000000 by decide) mkG_sum; have hat : ObI osb K (gOs 1 10 x y) e ((1 : Nat) : Int) false (((1 : Nat) : Int), ((0 : Nat) : Int), 0, 0) st (restM e ((gOs 1 10 x y).drop 0)) := ObI.at (k := 0) (by rw [List.take_zero, List.append_nil]; exact hp) (Nat.zero_le _) (fun h => by cases h)
    exact fin (s := 1) hL ⟨rfl, ⟨fun h => (by cases h), hl⟩, .inr (.inl ⟨rfl, rfl, _, by rw [hosu]; exact hat, rfl⟩)⟩ (by decide) (by rw [uLeft1, tLeft, if_pos hsc, hsc]; simp only [List.length_nil, Nat.add_sub_cancel, List.drop_zero]; omega) hs
end
section
variable {P : Program} {n : Nat} {N R : Post} {B : List (Nat × Post)} {ρ : Env} {w : World}
theorem cw_mid {c1 c2 : Code} {X : Type} (W : List Nat) (slots : X → List (Nat × Value)) (I : X → World → Prop) (h1 : cw P n c1 (fun ρ' w' => ∃ x, I x w' ∧ AllS ρ' (slots x) ∧ Out W ρ' ρ) B R ρ w)
    (h2 : ∀ x ξ w, I x w → cw P n c2 N B R (updL (mix W ξ ρ) (slots x)) w) : cw P n (.seq c1 c2) N B R ρ w :=
  cw_join _ h1 fun ρ' w' ⟨x, hI, hS, hO⟩ => by
    have := h2 x ρ' w' hI
    rwa [← funext (env_head hO _ hS)] at this
end
section
set_option maxRecDepth 100000
theorem headMay : Tryz.prog.mayEnter = true := by kernel_rfl
theorem headLifts : (Rows.upTwoRow.lifted == Tryz.prog.liftsFinal) = true := by kernel_rfl
theorem headMake : (Tryz.prog.make == some Rows.upTwoRow.make) = true := by kernel_rfl
theorem both_true {a b : Bool} (ha : a = true) (hb : b = true) : (a && b) = true := by rw [ha, hb]; rfl
end
end Go.Proofs.YthejaanobeonnaaGreatDoor
