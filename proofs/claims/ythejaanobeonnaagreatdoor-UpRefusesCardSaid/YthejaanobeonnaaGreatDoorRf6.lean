/- The store, over chunks: Start, Part, Abort. The client, over chunks: New, Asked, again. What the statements make: manifests with blobs, a log and a client. The store, over chunks: Complete. The client, over chunks: Put, Part, Delete, Abort, Start, Head, Complete. The client, over chunks: Put, Start, Head, Complete. StoreRanges: the walk. (Number: in G.) CallTwice: the walk. PartMakes: the walk. part.Step, over chunks. An upload's chunk. PartLost, PartAnew: the walks. Asking till there is an answer, in general. PartSteps: what each thing that Step does makes of the store, whatever is lost. What each thing that part.Step does makes of the store, whatever is lost; objects of any names. part.Step, whatever comes of the store's calls; objects of any names. An upload: what fits; one thing of the object at hand. A step of an upload, with what it calls left open. An upload is begun: up.New, whatever comes in. -/
import Derived.Test.YthejaanobeonnaaGreatDoorRf5
import Derived.Test.YthejaanobeonnaaGreatDoorRf3
import Derived.Test.YthejaanobeonnaaGreatDoorRf2
set_option linter.all false
namespace Go.Proofs.YthejaanobeonnaaGreatDoor
section
open Go.RowKit
attribute [local irreducible] zAh
variable {g w : World} {L M : List HP} {ad : Nat → Addr} {p : Nat} {st : St}
theorem Mem.openU {e : Nat × Nat} {u : Up} (hs : Mem g w (upC e u :: L)) : ∃ ps, Mem g w (cells e.1 [.string u.name, .map (some e.2)] 280 :: mapI e.2 ps :: partsC ps u.parts :: L) := by
  obtain ⟨ps, h⟩ := hs.unex; exact ⟨ps, h.unstars⟩
theorem Mem.closeU {ub pm : Nat} {u : Up} {ps : List (Int × Value)} (hs : Mem g w (cells ub [.string u.name, .map (some pm)] 280 :: mapI pm ps :: partsC ps u.parts :: L)) : Mem g w (upC (ub, pm) u :: L) :=
  Mem.ex (f := fun ps => Go.Proofs.YthejaanobeonnaaGreatDoor.stars [cells ub [.string u.name, .map (some pm)] 280, mapI pm ps, partsC ps u.parts]) ps (Mem.stars (M := [cells ub [.string u.name, .map (some pm)] 280, mapI pm ps, partsC ps u.parts]) hs)
theorem up_aget (us : List (Int × Nat × Nat)) (i : Int) : zAw (us.map upPtr) i = (zAw us i).map fun e => .pointer (some ⟨e.1, 0, none⟩) := by
  induction us with
  | nil => rfl
  | cons e us ih =>
    obtain ⟨k, e1, e2⟩ := e; simp only [List.map_cons, upPtr, zAw]
    split
    · rfl
    · exact ih
theorem up_aput (us : List (Int × Nat × Nat)) (i : Int) (e : Nat × Nat) : (zBv us i e).map upPtr = zBv (us.map upPtr) i (.pointer (some ⟨e.1, 0, none⟩)) := by
  induction us with
  | nil => rfl
  | cons x us ih =>
    obtain ⟨k, e1, e2⟩ := x; simp only [List.map_cons, upPtr, zBv]
    split
    · simp [upPtr]
    · simp only [List.map_cons, ih]; rfl
theorem up_adel (us : List (Int × Nat × Nat)) (i : Int) : (zDa us i).map upPtr = zDa (us.map upPtr) i := by
  induction us with
  | nil => rfl
  | cons x us ih =>
    obtain ⟨k, e1, e2⟩ := x; simp only [List.map_cons, upPtr, zDa]
    split
    · rfl
    · simp only [List.map_cons, ih]; rfl
theorem up_keys (us : List (Int × Nat × Nat)) : zAl (us.map upPtr) = zAl us := by simp [zAl, upPtr, List.map_map, Function.comp_def]
def St.start1 (n : ByteArray) (st : St) : Nat × Int × St := if zBq n.data.toList then (0, ((st.ids + 1 : Nat) : Int), { st with ids := st.ids + 1, ups := zBv st.ups ((st.ids + 1 : Nat) : Int) ⟨n, []⟩ }) else (106, 0, st)
theorem startC_sl (hE : ErrG ad g) {nb sb ib : Nat} {n : ByteArray} (hid : st.ids < 4611686018427387904) (hs : Mem g w (zB8 p st :: cells ib [.int .i64 0] 3 :: cells nb [.string n] 9 :: cells sb [.pointer (some ⟨p, 0, none⟩)] 30 :: M)) :
    Calls Tryz.prog 207 #[.pointer (some ⟨nb, 0, none⟩), .pointer (some ⟨sb, 0, none⟩), .pointer (some ⟨ib, 0, none⟩)] w (Ret fun v w' => v = zAh ad (st.start1 n).1 ∧ Mem g w' (zB8 p (st.start1 n).2.2 :: cells ib [.int .i64 (st.start1 n).2.1] 3 :: cells nb [.string n] 9 :: cells sb [.pointer (some ⟨p, 0, none⟩)] 30 :: M)) := by
  obtain ⟨mo, mu, sa, sn, sc, es, us, hn, hs⟩ := hs.openS; simp only [zCt, List.cons_append, List.nil_append] at hs; refine zAf Tryz.func207 rfl rfl ?_
  skip
  refine zA3 (zA1 ?_); refine zA rfl (zA0 (v := .nilIface) rfl) ?_; refine zA6 ?_; refine zA3 ?_; refine zA3 (zA1 ?_); refine zA rfl (zA7 uz9 rfl rfl (hs.cellAt 7 rfl rfl)) ?_; refine zAb rfl en89 (zFn hs n) ?_; clear hs; rintro _ w ⟨rfl, hs⟩; refine zA rfl (zBt rfl) ?_; refine zA6 ?_; refine zB rfl ?_ ?_
  ·
   intro h5; replace h5 := zEu h5; refine zA3 (zA1 ?_); refine zA rfl (zA7 zCe rfl rfl (hE.cellW hs 106 (by decide) rfl)) ?_; refine zA rfl (zA0 (v := zAh ad _) rfl) ?_; refine zA6 ?_; refine zAc ?_; refine zBd (v := zAh ad _) rfl rfl ?_
   have hp : st.start1 n = (106, 0, st) := by simp [St.start1, h5]
   rw [hp]; exact ⟨_, rfl, rfl, hs.closeS⟩
  ·
   intro h5; replace h5 := zE0 h5; refine zAd ?_; refine zA3 (zA1 ?_); refine zA rfl (zA7 uz30 rfl rfl (hs.cellAt 8 rfl rfl)) ?_; refine zA rfl (zA8 rfl) ?_; refine zA rfl (zA4 (o' := 2) uz92 rfl sz3 rfl rfl rfl) ?_; refine zA rfl (zA7 uz3 rfl rfl (hs.cellAt 0 rfl rfl)) ?_; refine zA rfl (zAu rfl rfl rfl (inI (by omega) (by omega))) ?_; refine zA rfl (zA8 rfl) ?_; refine zA rfl (zA4 (o' := 2) uz92 rfl sz3 rfl rfl rfl) ?_; refine zB5 (v := .int .i64 _) hs 0 rfl sz3 rfl rfl rfl rfl ?_; clear hs; intro w hs
   try simp only [zzs, zzz] at hs
   refine zA6 (zA3 (zA1 ?_)); refine zA rfl (zA7 uz30 rfl rfl (hs.cellAt 8 rfl rfl)) ?_; refine zA rfl (zA8 rfl) ?_; refine zA rfl (zA4 (o' := 2) uz92 rfl sz3 rfl rfl rfl) ?_; refine zA rfl (zA7 uz3 rfl rfl (hs.cellAt 0 rfl rfl)) ?_; refine zB5 (v := .int .i64 _) hs 6 rfl sz3 rfl rfl rfl rfl ?_; clear hs; intro w hs
   try simp only [zzs, zzz] at hs
   refine zA6 ?_; refine zA3 ?_; refine zAp zBk (hs.drop 3) ?_; intro w tr hK; replace hs := tr _ hs; clear tr; refine zA5 0 rfl rfl (fun w hs => zA7 uz30 rfl rfl (hs.cellAt 7 rfl rfl)) hK ?_; refine zA5 1 rfl rfl (fun w hs => zA8 rfl) hK ?_; refine zA5 2 rfl rfl (fun w hs => zA4 (o' := 1) uz92 rfl sz90 rfl rfl rfl) hK ?_; refine zA5 3 rfl rfl (fun w hs => zA7 uz90 rfl rfl (hs.cellAt 0 rfl rfl)) hK ?_; refine zA5 4 rfl rfl (fun w hs => zA7 uz3 rfl rfl (hs.cellAt 5 rfl rfl)) hK ?_; refine zA5 5 rfl rfl (fun w hs => zA7 uz9 rfl rfl (hs.cellAt 6 rfl rfl)) hK ?_; refine zAe [6] ?_; refine ⟨⟨_, rfl, ?_⟩, trivial⟩; refine zF5 (Value.int .i64) hs rfl ?_; clear hs; intro m25 w hs
   try simp only [zzs, zzz] at hs
   clear hK; have hK := hs.tail.drop 3; refine zA6 ⟨hK, ?_⟩; refine zA5 7 rfl rfl (fun w hs => zC0 ([.string n, .map (some m25)]) uz280 ze280 pl280 rfl (by simp [Value.cells]) rfl rfl) hK ?_; refine zAe [8] ?_; refine ⟨⟨_, rfl, ?_⟩, trivial⟩; refine zBh (v := .agg _) hs rfl rfl ?_; clear hs; intro b27 w hs; clear hK; have hK := hs.tail.tail.drop 3; refine zA6 ⟨hK, ?_⟩; refine zAe [9] ?_; refine ⟨⟨_, rfl, ?_⟩, trivial⟩; refine zD4 (v := .pointer (some _)) hs 5 rfl zDp uz90 uz3 rfl rfl rfl ?_; clear hs; intro w hs
   try simp only [zzs, zzz] at hs
   clear hK; have hK := hs.tail.tail.drop 3; refine zA6 ⟨hK, ?_⟩; refine zAr (by kernel_rfl) ?_; clear hK; refine zA3 (zA1 ?_); refine zA rfl (zA0 (v := .nilIface) rfl) ?_; refine zA6 ?_; refine zAc ?_; refine zBd (v := .nilIface) rfl rfl ?_
   have hp : st.start1 n = (0, ((st.ids + 1 : Nat) : Int), { st with ids := st.ids + 1, ups := zBv st.ups ((st.ids + 1 : Nat) : Int) ⟨n, []⟩ }) := by simp [St.start1, h5]
   rw [hp]; have hu := Mem.closeU (u := ⟨n, []⟩) ((hs.addE (famC_nil (R := rdB) (κ := Int) _)).arr [1, 2, 0] 3 (by decide)); have hf := Mem.famPut (R := upC) (k := ((st.ids + 1 : Nat) : Int)) hu 4 rfl (fun _ h => False.elim h); exact ⟨_, rfl, (zAz ad).symm, Mem.closeS (st := { st with ids := st.ids + 1, ups := zBv st.ups ((st.ids + 1 : Nat) : Int) ⟨n, []⟩ }) (mo := mo) (mu := mu) (sv := .slice sa sn sc) (es := es) (us := zBv us ((st.ids + 1 : Nat) : Int) (b27, m25)) (by simp only [zCt]; rw [up_aput]; exact hf)⟩
def St.startR (n : ByteArray) (st : St) : Int × Nat × St :=
  if st.next = 1 then (0, 111, st.begin) else if st.next = 2 then (0, 111, (st.begin.start1 n).2.2) else ((st.begin.start1 n).2.1, (st.begin.start1 n).1, (st.begin.start1 n).2.2)
theorem start1_bad {n : ByteArray} {st : St} (h : (st.start1 n).1 ≠ 0) : (st.start1 n).2.1 = 0 := by
  unfold St.start1 at h ⊢
  split
  · rename_i hv; rw [if_pos hv] at h; exact absurd rfl h
  · rfl
theorem start_sl (hE : ErrG ad g) (hs : Mem g w (zB8 p st :: M)) (hid : st.ids < 4611686018427387904) (hcl : st.calls < 4611686018427387904) (hfl : st.failed < 4611686018427387904) {n : ByteArray} {x : Int} {k : Nat} {st2 : St} (hk : st.startR n = (x, k, st2)) :
    Calls Tryz.prog 185 #[.pointer (some ⟨p, 0, none⟩), .string n] w (Ret fun v w' => v = .tuple #[.int .i64 x, zAh ad k] ∧ Mem g w' (zB8 p st2 :: M)) := by
  refine zAf Tryz.func185 rfl rfl ?_
  skip
  refine zA3 (zA1 ?_); refine zBh (v := .pointer (some _)) hs rfl rfl ?_; clear hs; intro b2 w hs
  try simp only [zzs, zzz] at hs
  refine zBh (v := .string _) hs rfl rfl ?_; clear hs; intro b3 w hs
  try simp only [zzs, zzz] at hs
  refine zA rfl (zA0 (v := .int .i64 _) rfl) ?_; refine zA rfl (zA0 (v := .nilIface) rfl) ?_; refine zA6 (zA3 (zA1 ?_)); refine zBn hs rfl ze3 ?_; clear hs; intro b6 w hs
  try simp only [zzs, zzz] at hs
  refine zB5 (v := .int .i64 _) hs 0 rfl sz3 rfl rfl rfl rfl ?_; clear hs; intro w hs
  try simp only [zzs, zzz] at hs
  refine zA6 ?_; refine zA3 ?_; replace hs := hs.pick 3 rfl; simp only [List.eraseIdx_cons_succ, List.eraseIdx_cons_zero] at hs; refine zA1 ?_; refine zA rfl (zA7 uz30 rfl rfl (hs.cellAt 3 rfl rfl)) ?_; refine zA rfl (zC) ?_
  refine zAb rfl en206 (call_sl (R := fun c w' => ∃ i s2, (if c = 0 then (i, c, s2) else (0, c, s2)) = (x, k, st2) ∧ Mem g w' (zB8 p s2 :: cells b6 [.int .i64 i] 3 :: M)) (cap := #[.pointer (some ⟨b3, 0, none⟩), .pointer (some ⟨b2, 0, none⟩), .pointer (some ⟨b6, 0, none⟩)]) hE hs hcl hfl en207 (fun h1 w1 hs => ⟨0, st.begin, by rw [← hk]; simp [St.startR, h1], hs.arr [0, 1] 4 (by decide)⟩) (fun h1 w1 hs => (startC_sl (st := st.begin) (n := n) hE hid hs).mono (by rintro e w2 ⟨v, rfl, rfl, hs⟩; refine ⟨_, rfl, _, rfl, hs.nil, _, _, ?_, hs.arr [0, 1] 4 (by decide)⟩; rw [← hk]; by_cases h2 : st.next = 2 <;> simp only [St.startR, h1, h2, if_true, if_false] <;> (by_cases h3 : (st.begin.start1 n).1 = 0 <;> simp [h3]; try exact (start1_bad h3).symm)))) ?_
  clear hs; rintro _ w ⟨c10, rfl, i10, s10, hh, hs⟩; refine zA rfl (zA0 (v := zAh ad _) rfl) ?_; refine zA6 ?_; refine zA3 ?_; refine zA3 (zA1 ?_); refine zA rfl (zA2 (v := zAh ad _) rfl) ?_; refine zA rfl (zAx (ad := ad) rfl) ?_; refine zA6 ?_; refine zB rfl ?_ ?_
  ·
   intro h12; have g12 := zEt h12; refine zA3 (zA1 ?_); refine zA rfl (zA2 (v := zAh ad _) rfl) ?_; refine zA rfl (zA0 (v := .int .i64 _) rfl) ?_; refine zA rfl (zA0 (v := zAh ad _) rfl) ?_; refine zA6 ?_; refine zAc ?_; refine zDz (v := .int .i64 _) (v2 := zAh ad _) rfl rfl rfl ?_; rw [if_neg g12] at hh; simp only [Prod.mk.injEq] at hh; obtain ⟨rfl, rfl, rfl⟩ := hh; exact ⟨_, rfl, rfl, hs.drop 1⟩
  ·
   intro h12; have g12 := zEs h12; refine zAd ?_; refine zA3 (zA1 ?_); refine zA rfl (zA7 uz3 rfl rfl (hs.cellAt 1 rfl rfl)) ?_; refine zA rfl (zA0 (v := .int .i64 _) rfl) ?_; refine zA rfl (zA0 (v := .nilIface) rfl) ?_; refine zA6 ?_; refine zAc ?_; refine zDz (v := .int .i64 _) (v2 := .nilIface) rfl rfl rfl ?_; rw [if_pos g12] at hh; simp only [Prod.mk.injEq] at hh; obtain ⟨rfl, rfl, rfl⟩ := hh; exact ⟨_, rfl, by rw [g12, zAz], hs.drop 1⟩
def St.part1 (id k : Int) (b : List UInt8) (st : St) : Nat × St := match zAw st.ups id with
  | none => (107, st)
  | some u => if k < 0 ∨ 256 ≤ k then (105, st) else (0, { st with ups := zBv st.ups id { u with parts := zBv u.parts k b } })
theorem partC_sl (hE : ErrG ad g) {sb ib kb bb : Nat} {id k : Int} {b : List UInt8} {a : Option Addr} {m c : Nat} (hs : Mem g w (zB8 p st :: cells bb [.slice a m c] 22 :: cells kb [.int .i64 k] 3 :: cells ib [.int .i64 id] 3 :: cells sb [.pointer (some ⟨p, 0, none⟩)] 30 :: M)) (hr : Rd g M (.slice a m c) (zAm b)) (hlen : b.length ≤ 1073741824) :
    Calls Tryz.prog 208 #[.pointer (some ⟨sb, 0, none⟩), .pointer (some ⟨ib, 0, none⟩), .pointer (some ⟨kb, 0, none⟩), .pointer (some ⟨bb, 0, none⟩)] w (Ret fun v w' => v = zAh ad (st.part1 id k b).1 ∧ Mem g w' (zB8 p (st.part1 id k b).2 :: cells bb [.slice a m c] 22 :: cells kb [.int .i64 k] 3 :: cells ib [.int .i64 id] 3 :: cells sb [.pointer (some ⟨p, 0, none⟩)] 30 :: M)) := by
  obtain ⟨mo, mu, sa, sn, sc, es, us, hn, hs⟩ := hs.openS; simp only [zCt, List.cons_append, List.nil_append] at hs; have hky := hs.famKeys 4 rfl
  cases ho : zAw st.ups id with
  | none =>
    have he : zAw (us.map upPtr) id = none := by rw [up_aget, fam_none hky ho]; rfl
    have hp : st.part1 id k b = (107, st) := by simp [St.part1, ho]
    rw [hp]; refine zAf Tryz.func208 rfl rfl ?_
    skip
    refine zA3 (zA1 ?_); refine zA rfl (zA0 (v := .nilIface) rfl) ?_; refine zA6 ?_; refine zA3 ?_; refine zAp zBk hs ?_; intro w tr hK; replace hs := tr _ hs; clear tr; refine zA5 0 rfl rfl (fun w hs => zA7 uz30 rfl rfl (hs.cellAt 9 rfl rfl)) hK ?_; refine zA5 1 rfl rfl (fun w hs => zA8 rfl) hK ?_; refine zA5 2 rfl rfl (fun w hs => zA4 (o' := 1) uz92 rfl sz90 rfl rfl rfl) hK ?_; refine zA5 3 rfl rfl (fun w hs => zA7 uz90 rfl rfl (hs.cellAt 0 rfl rfl)) hK ?_; refine zA5 4 rfl rfl (fun w hs => zA7 uz3 rfl rfl (hs.cellAt 8 rfl rfl)) hK ?_; refine zA5 5 rfl rfl (fun w hs => zDg (hs.mapAt 3 rfl) zDp uz90 uz3 ze141 rfl rfl he) hK ?_
    refine zA5 6 rfl rfl (fun w hs => zA0 (v := .pointer none) rfl) hK ?_; refine zAr (by kernel_rfl) ?_; clear hK; refine zA3 ?_; refine zAo ?_; refine zA3 (zA1 ?_); refine zA rfl (zA2 (v := .pointer none) rfl) ?_; refine zA rfl (zD9 uz141 rfl rfl) ?_; refine zA rfl (zA0 (v := .bool _) rfl) ?_; refine zA6 ?_; refine zB6 rfl (rfl) ?_; refine zA3 (zA1 ?_); refine zA rfl (zA7 zCe rfl rfl (hE.cellW hs 107 (by decide) rfl)) ?_; refine zA rfl (zA0 (v := zAh ad _) rfl) ?_; refine zA6 ?_; refine zAc ?_; refine zBd (v := zAh ad _) rfl rfl ?_; exact ⟨_, rfl, rfl, hs.closeS⟩
  | some u =>
    obtain ⟨⟨ub, pm⟩, hu⟩ := fam_some hky ho
    have he : zAw (us.map upPtr) id = some (.pointer (some ⟨ub, 0, none⟩)) := by rw [up_aget, hu]; rfl
    have hbad : k < 0 ∨ 256 ≤ k → st.part1 id k b = (105, st) := fun h => by simp only [St.part1, ho]; rw [if_pos h]
    refine zAf Tryz.func208 rfl rfl ?_
    skip
    refine zA3 (zA1 ?_); refine zA rfl (zA0 (v := .nilIface) rfl) ?_; refine zA6 ?_; refine zA3 ?_; refine zAp zBk hs ?_; intro w tr hK; replace hs := tr _ hs; clear tr; refine zA5 0 rfl rfl (fun w hs => zA7 uz30 rfl rfl (hs.cellAt 9 rfl rfl)) hK ?_; refine zA5 1 rfl rfl (fun w hs => zA8 rfl) hK ?_; refine zA5 2 rfl rfl (fun w hs => zA4 (o' := 1) uz92 rfl sz90 rfl rfl rfl) hK ?_; refine zA5 3 rfl rfl (fun w hs => zA7 uz90 rfl rfl (hs.cellAt 0 rfl rfl)) hK ?_; refine zA5 4 rfl rfl (fun w hs => zA7 uz3 rfl rfl (hs.cellAt 8 rfl rfl)) hK ?_; refine zA5 5 rfl rfl (fun w hs => zDg (hs.mapAt 3 rfl) zDp uz90 uz3 ze141 rfl rfl he) hK ?_
    refine zA5 6 rfl rfl (fun w hs => zA0 (v := .pointer (some _)) rfl) hK ?_; refine zAr (by kernel_rfl) ?_; clear hK; refine zA3 ?_; refine zAo ?_; refine zA3 (zA1 ?_); refine zA rfl (zA2 (v := .pointer (some _)) rfl) ?_; refine zA rfl (zD9 uz141 rfl rfl) ?_; refine zA rfl (zA0 (v := .bool _) rfl) ?_; refine zA6 ?_; refine zB4 rfl rfl ?_; refine zA3 (zA1 ?_); refine zA rfl (zA7 uz3 rfl rfl (hs.cellAt 7 rfl rfl)) ?_; refine zA rfl (zB9 rfl rfl) ?_; refine zA rfl (zA2 (v := .bool _) rfl) ?_; refine zB0 (t := _) (d := 19) rfl ?_ ?_
    ·
     intro h18; have g18 := of_decide_eq_true h18; refine zA9 rfl rfl rfl h18 ?_; refine zA9 rfl rfl rfl h18 ?_; refine zA rfl (zAk (v := .bool _) rfl h18 rfl) ?_; refine zA rfl (zA0 (v := .bool _) rfl) ?_; refine zA6 ?_; refine zB6 rfl rfl ?_; refine zA3 (zA1 ?_); refine zA rfl (zA7 zCe rfl rfl (hE.cellW hs 105 (by decide) rfl)) ?_; refine zA rfl (zA0 (v := zAh ad _) rfl) ?_; refine zA6 ?_; refine zAc ?_; refine zBd (v := zAh ad _) rfl rfl ?_; rw [hbad (by omega)]; exact ⟨_, rfl, rfl, hs.closeS⟩
    ·
     intro h18; have g18 := of_decide_eq_false h18; refine zAi rfl rfl h18 ?_; refine zA rfl (zA7 uz3 rfl rfl (hs.cellAt 7 rfl rfl)) ?_; refine zAi rfl rfl h18 ?_; refine zA rfl (zCw rfl rfl) ?_; refine zA rfl (zAg (v := .bool _) rfl h18 rfl) ?_; refine zA rfl (zA0 (v := .bool _) rfl) ?_; refine zA6 ?_; refine zB rfl ?_ ?_
     ·
      intro h21; have g21 := of_decide_eq_true h21; refine zA3 (zA1 ?_); refine zA rfl (zA7 zCe rfl rfl (hE.cellW hs 105 (by decide) rfl)) ?_; refine zA rfl (zA0 (v := zAh ad _) rfl) ?_; refine zA6 ?_; refine zAc ?_; refine zBd (v := zAh ad _) rfl rfl ?_; rw [hbad (by omega)]; exact ⟨_, rfl, rfl, hs.closeS⟩
     ·
      intro h21; have g21 := of_decide_eq_false h21; refine zAd ?_; refine zA3 ?_; obtain ⟨ps, hs⟩ := (hs.famTake 4 rfl hu ho).openU; simp only [zzs, zzz] at hs; refine zAp zBk (hs.drop 1) ?_; intro w tr hK; replace hs := tr _ hs; clear tr; refine zA5 0 rfl rfl (fun w hs => zA2 (v := .pointer (some _)) rfl) hK ?_; refine zA5 1 rfl rfl (fun w hs => zA8 rfl) hK ?_; refine zA5 2 rfl rfl (fun w hs => zA4 (o' := 1) uz280 rfl sz278 rfl rfl rfl) hK ?_; refine zA5 3 rfl rfl (fun w hs => zA7 uz278 rfl rfl (hs.cellAt 0 rfl rfl)) hK ?_; refine zA5 4 rfl rfl (fun w hs => zA7 uz3 rfl rfl (hs.cellAt 9 rfl rfl)) hK ?_
      refine zA5 5 rfl rfl (fun w hs => zA7 zCk rfl rfl (hs.cellAt 8 rfl rfl)) hK ?_; refine zAe [6] ?_; refine ⟨⟨_, rfl, ?_⟩, trivial⟩; refine zAb rfl en49 (zCj hs (l := b) (fun w hs => hr w (hs.suffix 13 rfl)) hlen) ?_; clear hs; rintro _ w ⟨a30, c30, rfl, hs⟩; clear hK; have hK := hs.tail.drop 1; refine zA6 ⟨hK, ?_⟩; refine zAe [7] ?_; refine ⟨⟨_, rfl, ?_⟩, trivial⟩; refine zD4 (v := .slice _ _ _) hs 2 rfl zDp uz278 uz3 rfl rfl rfl ?_; clear hs; intro w hs
      try simp only [zzs, zzz] at hs
      clear hK; have hK := hs.tail.drop 1; refine zA6 ⟨hK, ?_⟩; refine zAr (by kernel_rfl) ?_; clear hK; refine zA3 (zA1 ?_); refine zA rfl (zA0 (v := .nilIface) rfl) ?_; refine zA6 ?_; refine zAc ?_; refine zBd (v := .nilIface) rfl rfl ?_
      have hp : st.part1 id k b = (0, { st with ups := zBv st.ups id { u with parts := zBv u.parts k b } }) := by simp only [St.part1, ho]; rw [if_neg (by omega)]
      rw [hp]; have h1 := Mem.famPut (R := rdB) (k := k) (b := b) (hs.ownRd 0 rfl) 2 rfl (fun _ h => False.elim h); have h2 := Mem.closeU (u := { u with parts := zBv u.parts k b }) h1; have h3 := Mem.famPut (R := upC) (k := id) h2 4 rfl (fun _ h => h); rw [zDd hu] at h3; exact ⟨_, rfl, (zAz ad).symm, Mem.closeS (st := { st with ups := zBv st.ups id { u with parts := zBv u.parts k b } }) (mo := mo) (mu := mu) (sv := .slice sa sn sc) (es := es) (us := us) h3⟩
theorem part_sl (hE : ErrG ad g) (hs : Mem g w (zB8 p st :: M)) (hcl : st.calls < 4611686018427387904) (hfl : st.failed < 4611686018427387904) {id k : Int} {b : List UInt8} {a : Option Addr} {m c : Nat} (hr : Rd g M (.slice a m c) (zAm b)) (hlen : b.length ≤ 1073741824) {x : Nat} {st2 : St} (hk : st.run (St.part1 id k b) = (x, st2)) :
    Calls Tryz.prog 187 #[.pointer (some ⟨p, 0, none⟩), .int .i64 id, .int .i64 k, .slice a m c] w (Ret fun v w' => v = zAh ad x ∧ Mem g w' (zB8 p st2 :: M)) := by
  have k1 : (st.run (St.part1 id k b)).1 = x := by rw [hk]
  have k2 : (st.run (St.part1 id k b)).2 = st2 := by rw [hk]
  subst k1 k2; refine zAf Tryz.func187 rfl rfl ?_
  skip
  refine zA3 (zA1 ?_); refine zBh (v := .pointer (some _)) hs rfl rfl ?_; clear hs; intro b4 w hs
  try simp only [zzs, zzz] at hs
  refine zBh (v := .int .i64 _) hs rfl rfl ?_; clear hs; intro b5 w hs
  try simp only [zzs, zzz] at hs
  refine zBh (v := .int .i64 _) hs rfl rfl ?_; clear hs; intro b6 w hs
  try simp only [zzs, zzz] at hs
  refine zBh (v := .slice _ _ _) hs rfl rfl ?_; clear hs; intro b7 w hs
  try simp only [zzs, zzz] at hs
  refine zA rfl (zA0 (v := .nilIface) rfl) ?_; refine zA6 ?_; refine zA3 ?_; replace hs := hs.pick 4 rfl; simp only [List.eraseIdx_cons_succ, List.eraseIdx_cons_zero] at hs; refine zA1 ?_; refine zA rfl (zA7 uz30 rfl rfl (hs.cellAt 4 rfl rfl)) ?_; refine zA rfl (zC) ?_; refine zAb rfl en206 (call_err (cap := #[.pointer (some ⟨b4, 0, none⟩), .pointer (some ⟨b5, 0, none⟩), .pointer (some ⟨b6, 0, none⟩), .pointer (some ⟨b7, 0, none⟩)]) hE hs hcl hfl (St.part1 id k b) en208 (fun w1 h1 => partC_sl hE h1 hr hlen)) ?_; clear hs; rintro _ w ⟨rfl, hs⟩; refine zA rfl (zA0 (v := zAh ad _) rfl) ?_; refine zA6 ?_; refine zAc ?_; refine zBd (v := zAh ad _) rfl rfl ?_
  exact ⟨_, rfl, rfl, hs.arr [0] 5 (by decide)⟩
def St.abort1 (id : Int) (st : St) : Nat × St := if (zAw st.ups id).isSome then (0, { st with ups := zDa st.ups id }) else (107, st)
end
section
open Go.RowKit
attribute [local irreducible] zAh
variable {g w : World} {L M : List HP} {ad : Nat → Addr} {p q : Nat} {st : St}
abbrev zBf (q p : Nat) (t a : Int) : HP := cells q [.pointer (some ⟨p, 0, none⟩), .int .i64 t, .int .i64 a] 162
theorem clnew_sl (hE : ErrG ad g) (hs : Mem g w L) {t : Int} (h : 1 ≤ t ∧ t ≤ 8) : Calls Tryz.prog 41 #[.pointer (some ⟨p, 0, none⟩), .int .i64 t] w (Ret fun v w' => ∃ q, v = .tuple #[.pointer (some ⟨q, 0, none⟩), .nilIface] ∧ Mem g w' (zBf q p t 0 :: L)) := by
  refine zAf Tryz.func41 rfl rfl ?_
  skip
  refine zA3 (zA1 ?_); refine zA rfl (zA0 (v := .pointer none) rfl) ?_; refine zA rfl (zA0 (v := .nilIface) rfl) ?_; refine zA6 ?_; refine zA3 ?_; refine zA3 (zA1 ?_); refine zA rfl (zA2 (v := .int .i64 _) rfl) ?_; refine zA rfl (zB9 rfl rfl) ?_; refine zA rfl (zA2 (v := .bool _) rfl) ?_; refine zAi rfl rfl (decide_eq_false (by omega)) ?_; refine zA rfl (zA2 (v := .int .i64 _) rfl) ?_; refine zAi rfl rfl (decide_eq_false (by omega)) ?_; refine zA rfl (zBl rfl rfl) ?_; refine zA rfl (zAg (v := .bool _) rfl (decide_eq_false (by omega)) rfl) ?_; refine zA6 ?_; refine zB4 rfl (decide_eq_false (by omega)) ?_; refine zAd ?_; refine zA3 (zA1 ?_); refine zA rfl (zA2 (v := .pointer (some _)) rfl) ?_
  refine zA rfl (zA2 (v := .int .i64 _) rfl) ?_; refine zA rfl (zBs (cs := [.pointer (some ⟨p, 0, none⟩), .int .i64 t, .int .i64 0]) uz162 ze162 pl162 rfl) ?_; refine zBh (v := .agg _) hs rfl rfl ?_; clear hs; intro b16 w hs; refine zA rfl (zA0 (v := .pointer (some _)) rfl) ?_; refine zA rfl (zA0 (v := .nilIface) rfl) ?_; refine zA6 ?_; refine zAc ?_; refine zDz (v := .pointer (some _)) (v2 := .nilIface) rfl rfl rfl ?_; exact ⟨_, rfl, b16, rfl, hs⟩
def zBg {σ : Type} (step : σ → Nat × σ) : Nat → σ → Bool × Nat × Nat × σ
  | 0, s => (false, 111, 0, s)
  | n + 1, s => if (step s).1 = 111 then (true, (zBg step n (step s).2).2.1, (zBg step n (step s).2).2.2.1 + 1, (zBg step n (step s).2).2.2.2) else (false, (step s).1, 1, (step s).2)
theorem again_sl {σ : Type} (X : σ → List HP) (step : σ → Nat × σ) (I : Nat → σ → Prop) (hE : ErrG ad g) {f : FuncId} {cap : Array Value} {s : σ} {t : Nat} {a : Int} (ha : 0 ≤ a ∧ a < 1000000000000) (ht : t ≤ 8) (hs : Mem g w (zBf q p t a :: X s)) (hI : I t s)
    (hstep : ∀ n s, I (n + 1) s → I n (step s).2) (hcode : ∀ n s, I (n + 1) s → (step s).1 = 0 ∨ (step s).1 ∈ zC1) (hf : ∀ args w, (callFunc f args).run Tryz.prog w = .ok (.enter f args) w)
    (hdo : ∀ n s a w1, I (n + 1) s → Mem g w1 (zBf q p t a :: X s) → Calls Tryz.prog f cap w1 (Ret fun v w2 => v = zAh ad (step s).1 ∧ Mem g w2 (zBf q p t a :: X (step s).2))) :
    Calls Tryz.prog 183 #[.pointer (some ⟨q, 0, none⟩), .func (.func f) #[] cap] w
      (Ret fun v w' => v = .tuple #[.bool (zBg step t s).1, zAh ad (zBg step t s).2.1] ∧ Mem g w' (zBf q p t (a + ((zBg step t s).2.2.1 : Nat)) :: X (zBg step t s).2.2.2)) := by
  refine zAf Tryz.func183 rfl rfl ?_
  skip
  refine zA3 (zA1 ?_); refine zA rfl (zA0 (v := .bool _) rfl) ?_; refine zA rfl (zA0 (v := .nilIface) rfl) ?_; refine zA6 ?_; refine cw_scope ?_; refine zA3 (zA1 ?_); refine zA rfl (zA0 (v := .bool _) rfl) ?_; refine zA6 (zA3 (zA1 ?_)); refine zA rfl (zA7 zCe rfl rfl (hE.cellW hs 111 (by decide) rfl)) ?_; refine zA rfl (zA0 (v := zAh ad _) rfl) ?_; refine zA6 ?_; refine zA3 ?_; refine cw_label ?_; refine zA3 ?_; refine zA3 (zA1 ?_); refine zA rfl (zA2 (v := .pointer (some _)) rfl) ?_; refine zA rfl (zA8 rfl) ?_; refine zA rfl (zA4 (o' := 1) uz162 rfl sz3 rfl rfl rfl) ?_; refine zA rfl (zA7 uz3 rfl rfl (hs.cellAt 0 rfl rfl)) ?_; refine zA rfl (zA2 (v := .int .i64 _) rfl) ?_; refine zA6 ?_
  refine zAo ?_; refine zBr (X := Nat × σ) [6, 7, 13, 14, 15, 16, 17, 18, 19, 20, 21, 22, 23, 24, 25, 26, 27, 28] (fun x => [(6, .bool (decide (0 < x.1))), (7, zAh ad 111), (13, .int .i64 (x.1 : Nat))]) (fun x w => x.1 ≤ t ∧ I (t - x.1) x.2 ∧ zBg step t s = (decide (0 < x.1) || (zBg step (t - x.1) x.2).1, (zBg step (t - x.1) x.2).2.1, x.1 + (zBg step (t - x.1) x.2).2.2.1, (zBg step (t - x.1) x.2).2.2.2) ∧ Mem g w (zBf q p t (a + (x.1 : Nat)) :: X x.2)) (fun x => t - x.1) ((0, s)) ?_ ?_ ?_
  · exact ⟨rfl, rfl, rfl, trivial⟩
  · exact ⟨Nat.zero_le _, hI, by simp, by simpa using hs⟩
  clear hs; rintro x ξ w hI; obtain ⟨k, s1⟩ := x; obtain ⟨hk, hI1, hq, hs⟩ := hI; simp only at hk hI1 hq hs; refine zA3 (zA1 ?_); refine zA rfl (zB9 rfl rfl) ?_; refine zA6 ?_; refine zA3 ?_; refine zB rfl ?_ ?_
  ·
   intro h14; have g14 := of_decide_eq_true h14; obtain ⟨m, hm⟩ : ∃ m, t - k = m + 1 := ⟨t - k - 1, by omega⟩; rw [hm] at hI1 hq; refine zAd ?_; refine zA3 ?_; refine zAo ?_; refine zA3 (zA1 ?_); refine zA rfl (zA2 (v := .pointer (some _)) rfl) ?_; refine zA rfl (zA8 rfl) ?_; refine zA rfl (zA4 (o' := 2) uz162 rfl sz3 rfl rfl rfl) ?_; refine zA rfl (zA7 uz3 rfl rfl (hs.cellAt 0 rfl rfl)) ?_; refine zA rfl (zAu rfl rfl rfl (inI (by omega) (by omega))) ?_; refine zA rfl (zA8 rfl) ?_; refine zA rfl (zA4 (o' := 2) uz162 rfl sz3 rfl rfl rfl) ?_; refine zB5 (v := .int .i64 _) hs 0 rfl sz3 rfl rfl rfl rfl ?_; clear hs; intro w hs
   try simp only [zzs, zzz] at hs
   refine zA6 ?_; refine zA3 ?_; refine zA3 (zA1 ?_); refine zA rfl (zA2 (v := .func _ _ _) rfl) ?_; refine zE7 rfl hf rfl (hdo m s1 _ w hI1 hs) ?_; clear hs; rintro _ w ⟨rfl, hs⟩; refine zA rfl (zA0 (v := zAh ad _) rfl) ?_; refine zA6 (zA3 (zA1 ?_)); refine zA rfl (zA2 (v := zAh ad _) rfl) ?_; refine zA6 ?_; refine zAo ?_; refine zA3 (zA1 ?_); refine zA rfl (zA7 zCe rfl rfl (hE.cellW hs 111 (by decide) rfl)) ?_; refine zA rfl (zEq (hE.atW hs) (hcode m s1 hI1) (by decide) (c := (step s1).1) (d := 111) rfl rfl) ?_; refine zA rfl (zA0 (v := .bool _) rfl) ?_; refine zA6 ?_; refine zB rfl ?_ ?_
   ·
    intro h27; have g27 := of_decide_eq_true h27; refine zA3 (zA1 ?_); refine zA rfl (zA0 (v := .bool _) rfl) ?_; refine zA6 ?_; refine zBp rfl ?_; refine zA1 ?_; refine zA rfl (zAu rfl rfl rfl (inI (by omega) (by omega))) ?_; refine zA rfl (zA2 (v := .int .i64 _) rfl) ?_; refine zA6 ?_
    exact ⟨(k + 1, (step s1).2), by simp; omega, ⟨by simp; omega, by rw [show t - (k + 1, (step s1).2).1 = m by simp; omega]; exact hstep m s1 hI1, by rw [hq, show t - (k + 1, (step s1).2).1 = m by simp; omega]; simp only [zBg, g27, if_true]; simp; omega, by simpa [Int.add_assoc] using hs⟩, ⟨show Value.bool true = Value.bool (decide (0 < k + 1)) from zD6 (by simp), show zAh ad (step s1).1 = zAh ad 111 from by rw [g27], rfl, trivial⟩, by repeat (first | exact Out.mix _ _ _ | refine Out.updo rfl ?_ | refine Out.upd rfl ?_ | refine Out.mixIn rfl ?_)⟩
   ·
    intro h27; have g27 := of_decide_eq_false h27; refine zAd ?_; refine zBp rfl ?_; refine zA3 (zA1 ?_); refine zA rfl (zA2 (v := .bool _) rfl) ?_; refine zA rfl (zA2 (v := zAh ad _) rfl) ?_; refine zA rfl (zA0 (v := .bool _) rfl) ?_; refine zA rfl (zA0 (v := zAh ad _) rfl) ?_; refine zA6 ?_; refine zAc ?_; refine zDz (v := .bool _) (v2 := zAh ad _) rfl rfl rfl ?_; rw [hq]; simp only [zBg, g27, if_false]; exact ⟨_, rfl, by simp, by simpa [Int.add_assoc] using hs⟩
  ·
   intro h14; have g14 := of_decide_eq_false h14; refine zBp rfl ?_; refine zA3 (zA1 ?_); refine zA rfl (zA2 (v := .bool _) rfl) ?_; refine zA rfl (zA2 (v := zAh ad _) rfl) ?_; refine zA rfl (zA0 (v := .bool _) rfl) ?_; refine zA rfl (zA0 (v := zAh ad _) rfl) ?_; refine zA6 ?_; refine zAc ?_; refine zDz (v := .bool _) (v2 := zAh ad _) rfl rfl rfl ?_
   have e : t - k = 0 := by omega
   rw [e] at hq; rw [hq]; simp only [zBg]; exact ⟨_, rfl, by simp, by simpa using hs⟩
end
section
open Go.RowKit
attribute [local irreducible] zAh eV
variable {g w : World} {L M : List HP} {ad : Nat → Addr} {p : Nat} {dk : Dk} {st : St} {f : ByteArray → Option (List UInt8)}
def mkG (id base : Nat) (fin time : Int) (l : List Pr) (x y : List UInt8) : Mf := ⟨id, base, fin, time, l, [(zDr id bData base, (x.length : Nat), zBz 0 x), (zDr id zFa base, (y.length : Nat), zBz 0 y)]⟩
theorem obBad_len {n : ByteArray} {k c : Nat} (hk : k ≤ 1000) : zCv (n, (k : Int), c) = zCv (n, 0, 0) := by
  unfold zCv
  simp only
  split
  · rfl
  · rw [if_neg (by omega), if_neg (by omega)]
theorem obF_two {n1 n2 : ByteArray} {k1 k2 c1 c2 : Nat} (h : obF [(n1, 0, 0), (n2, 0, 0)] = (0, none)) (h1 : k1 ≤ 1000) (h2 : k2 ≤ 1000) : obF [(n1, (k1 : Int), c1), (n2, (k2 : Int), c2)] = (0, none) := by
  have b1 : zCv (n1, 0, 0) = 0 := Decidable.byContradiction fun hb => by
    rw [obF_bad (i := 0) (by simp) rfl hb (fun j hj => by omega)] at h; exact hb (congrArg Prod.fst h)
  have b2 : zCv (n2, 0, 0) = 0 := Decidable.byContradiction fun hb => by
    rw [obF_bad (i := 1) (by simp) rfl hb (fun j hj u hu => by
      have : j = 0 := by omega
      subst this
      cases hu
      exact b1)] at h
    exact hb (congrArg Prod.fst h)
  rw [obF_fine (by simp) (fun j u hu => by
    match j, hu with
    | 0, hu => cases hu; exact b1
    | 1, hu => cases hu; exact b2)] at h
  rw [obF_fine (by simp) (fun j u hu => by
    match j, hu with
    | 0, hu => cases hu; rw [obBad_len h1]; exact b1
    | 1, hu => cases hu; rw [obBad_len h2]; exact b2)]
  exact h
theorem mkG_F {id base : Nat} {fin time : Int} {l : List Pr} {x y : List UInt8} (h0 : mfF ⟨id, base, fin, time, l, [(zDr id bData base, 0, 0), (zDr id zFa base, 0, 0)]⟩ = (0, none)) (hx : x.length ≤ 1000) (hy : y.length ≤ 1000) : mfF (mkG id base fin time l x y) = (0, none) := by
  unfold mfF at h0 ⊢
  have e1 : zBe (mkG id base fin time l x y) = zBe ⟨id, base, fin, time, l, [(zDr id bData base, 0, 0), (zDr id zFa base, 0, 0)]⟩ := rfl; have e2 : zD (mkG id base fin time l x y) = zD ⟨id, base, fin, time, l, [(zDr id bData base, 0, 0), (zDr id zFa base, 0, 0)]⟩ := rfl; have e3 : (mkG id base fin time l x y).eps = l := rfl; rw [e1, e2, e3]
  split at h0
  · cases h0
  · rename_i g1
    rw [if_neg g1]
    split at h0
    · rename_i g2; exact absurd (congrArg Prod.fst h0) g2
    · rename_i g2
      rw [if_neg g2]
      split at h0
      · cases h0
      · rename_i g3
        rw [if_neg g3]; exact obF_two h0 hx hy
set_option maxRecDepth 100000 in
set_option maxHeartbeats 2000000 in
theorem makeG_sl (hs : Mem g w L) {id base : Nat} {fin time : Int} {a a1 a2 : Option Addr} {n c c1 c2 : Nat} {l : List Pr} {x y : List UInt8} (hr : RdK g L 2 (.slice a n c) (l.map prL)) (hn : n = l.length) (hlen : 1 ≤ l.length ∧ l.length ≤ 1000000) (hx : Rd g L (.slice a1 x.length c1) (zAm x)) (hy : Rd g L (.slice a2 y.length c2) (zAm y)) (hxl : x.length ≤ 1000) (hyl : y.length ≤ 1000) (hid : id ≤ 2147483647) (hb : base ≤ 1099511627776) (hF : mfF (mkG id base fin time l x y) = (0, none)) :
    Calls Tryz.prog 14 #[.int .i64 id, .int .i64 base, .int .i64 fin, .int .i64 time, .slice a n c, .slice a1 x.length c1, .slice a2 y.length c2] w (Ret fun v w' => ∃ s1 s2 : SA, v = .tuple #[.agg (mfL (mkG id base fin time l x y) s1 s2).toArray, fltV (0, none)] ∧ Mem g w' (mfP (mkG id base fin time l x y) s1 s2 ++ L)) := by
  subst hn; refine zAf Tryz.func14 rfl rfl ?_
  skip
  refine zA3 (zA1 ?_); refine zBn hs rfl ze39 ?_; clear hs; intro b14 w hs
  try simp only [zzs, zzz] at hs
  refine zBn hs rfl ze42 ?_; clear hs; intro b15 w hs
  try simp only [zzs, zzz] at hs
  refine zA6 (zA3 (zA1 ?_)); refine zA rfl (zA2 (v := .int .i64 _) rfl) ?_; refine zA rfl (zA2 (v := .int .i64 _) rfl) ?_; refine zA rfl (zA2 (v := .int .i64 _) rfl) ?_; refine zA rfl (zA2 (v := .int .i64 _) rfl) ?_; refine zA rfl (zA2 (v := .slice _ _ _) rfl) ?_; refine zAb rfl en42 (copyPr_sl hs hr.cons.cons rfl hlen) ?_; clear hs; rintro _ w ⟨s1, rfl, hs⟩; refine zA rfl (zBs (cs := [.int .i64 id, .int .i64 base, .int .i64 fin, .int .i64 time, .slice s1.1 l.length s1.2, .slice none 0 0]) zCb ze39 pl39 rfl) ?_; refine zBn hs rfl ze39 ?_; clear hs; intro b16 w hs
  try simp only [zzs, zzz] at hs
  refine zAn hs 0 rfl rfl rfl zF2 rfl rfl ?_; clear hs; intro w hs
  try simp only [zzs, zzz] at hs
  refine zA6 (zA3 (zA1 ?_)); refine zA rfl (zA2 (v := .int .i64 _) rfl) ?_; refine zA rfl (zA2 (v := .int .i64 _) rfl) ?_; refine zAb rfl en43 (objNm_sl hs id base bData hid hb (by decide) (by decide)) ?_; clear hs; rintro _ w ⟨rfl, hs⟩; refine zA rfl (zA2 (v := .slice _ _ _) rfl) ?_; refine zA rfl (zAt zCk rfl) ?_; refine zA rfl (zA2 (v := .slice _ _ _) rfl) ?_; refine zAb rfl en44 (hs.callsE (refSum_any (w := w) (b := .slice a1 x.length c1) (l := x) ((hx.cons.cons.cons.cons).seq hs) (by omega))) ?_; clear hs; rintro _ w ⟨rfl, hs⟩
  refine zA rfl (zC0 ([.string (zDr id bData base), .int .i64 ((x.length : Nat) : Int), .int .u32 ((zBz 0 x : Nat) : Int)]) uz66 ze66 pl66 rfl (by simp [Value.cells]) rfl rfl) ?_; refine zA rfl (zA2 (v := .int .i64 _) rfl) ?_; refine zA rfl (zA2 (v := .int .i64 _) rfl) ?_; refine zAb rfl en43 (objNm_sl hs id base zFa hid hb (by decide) (by decide)) ?_; clear hs; rintro _ w ⟨rfl, hs⟩; refine zA rfl (zA2 (v := .slice _ _ _) rfl) ?_; refine zA rfl (zAt zCk rfl) ?_; refine zA rfl (zA2 (v := .slice _ _ _) rfl) ?_; refine zAb rfl en44 (hs.callsE (refSum_any (w := w) (b := .slice a2 y.length c2) (l := y) ((hy.cons.cons.cons.cons).seq hs) (by omega))) ?_; clear hs; rintro _ w ⟨rfl, hs⟩
  refine zA rfl (zC0 ([.string (zDr id zFa base), .int .i64 ((y.length : Nat) : Int), .int .u32 ((zBz 0 y : Nat) : Int)]) uz66 ze66 pl66 rfl (by simp [Value.cells]) rfl rfl) ?_; refine lw_build2 hs rfl (r1 := obL (zDr id bData base, (x.length : Nat), zBz 0 x)) (r2 := obL (zDr id zFa base, (y.length : Nat), zBz 0 y)) zDf zsOb rfl rfl (fill_ob _ _ _ _ _ _) (by decide) (by decide) ?_; clear hs; intro b41 w hs; replace hs := hs.asRows 0 rfl (m := 2) (k := 3) (rows := [obL (zDr id bData base, (x.length : Nat), zBz 0 x), obL (zDr id zFa base, (y.length : Nat), zBz 0 y)]) rfl rfl (obL_rows [(zDr id bData base, (x.length : Nat), zBz 0 x), (zDr id zFa base, (y.length : Nat), zBz 0 y)])
  simp only [List.set_cons_zero] at hs; refine zA rfl (zA4 (o' := 5) zCb rfl sz37 rfl rfl rfl) ?_; refine zB5 (v := .slice _ _ _) hs 1 rfl sz37 rfl rfl rfl rfl ?_; clear hs; intro w hs
  try simp only [zzs, zzz] at hs
  refine zA6 (zA3 (zA1 ?_)); refine zA rfl (zBa hs 1 rfl zCb zF2 rfl) ?_; refine zAb rfl en23 (rManifest_sl (m := mkG id base fin time l x y) (e := s1) (o := (some ⟨b41, 0, none⟩, 2)) hs (MfR.own 2 0 rfl rfl) (by simp [mkG])) ?_; clear hs; rintro _ w ⟨rfl, hs⟩; rw [hF]; refine zBn hs rfl ze42 ?_; clear hs; intro b17 w hs
  try simp only [zzs, zzz] at hs
  refine zAn hs 0 rfl rfl rfl zE4 rfl rfl ?_; clear hs; intro w hs
  try simp only [zzs, zzz] at hs
  refine zA6 ?_; refine zA3 ?_; refine zA3 (zA1 ?_); refine zA rfl (zA4 (o' := 0) uz42 rfl sz3 rfl rfl rfl) ?_; refine zA rfl (zA7 uz3 rfl rfl (hs.cellAt 0 rfl rfl)) ?_; refine zA rfl (zCf rfl rfl) ?_; refine zA6 ?_; refine zB4 rfl (rfl) ?_; refine zAd ?_; refine zA3 ?_; refine zAp zBk ((hs.drop 5).drop 4) ?_; intro w tr hK; replace hs := tr _ hs; clear tr; refine zA5 0 rfl rfl (fun w hs => zBa hs 2 rfl zCb zF2 rfl) hK ?_; refine zAe [1] ?_; refine ⟨⟨_, rfl, ?_⟩, trivial⟩; refine zAb rfl en22 (none_sl hs) ?_; clear hs; rintro _ w ⟨rfl, hs⟩; clear hK; have hK := (hs.drop 5).drop 4; refine zA6 ⟨hK, ?_⟩; refine zAe [2] ?_; refine ⟨⟨_, rfl, ?_⟩, trivial⟩
  refine zAn hs 5 rfl rfl rfl zF2 rfl rfl ?_; clear hs; intro w hs
  try simp only [zzs, zzz] at hs
  clear hK; have hK := (hs.drop 5).drop 4; refine zA6 ⟨hK, ?_⟩; refine zAe [3] ?_; refine ⟨⟨_, rfl, ?_⟩, trivial⟩; refine zAn hs 4 rfl rfl rfl zE4 rfl rfl ?_; clear hs; intro w hs
  try simp only [zzs, zzz] at hs
  clear hK; have hK := (hs.drop 5).drop 4; refine zA6 ⟨hK, ?_⟩; refine zAr (by kernel_rfl) ?_; clear hK; refine zAc ?_; refine resG [(.cell 14 39, .agg _), (.cell 15 42, .agg _)] rfl ⟨⟨_, rfl, zC2 hs 5 rfl zCb zF2⟩, ⟨_, rfl, zC2 hs 4 rfl uz42 zE4⟩, trivial⟩ ?_; exact ⟨_, rfl, s1, (some ⟨b41, 0, none⟩, 2), rfl, hs.arr [3, 1] 6 (by decide)⟩
abbrev man21 (id : Nat) (x y : List UInt8) : Mf := mkG id 10 20 5 [(1, 10)] x y
theorem man21_sl (hs : Mem g w L) {id : Nat} (hid : id ≤ 2147483647) {a1 a2 : Option Addr} {c1 c2 : Nat} {x y : List UInt8} (hx : Rd g L (.slice a1 x.length c1) (zAm x)) (hy : Rd g L (.slice a2 y.length c2) (zAm y)) (hxl : x.length ≤ 1000) (hyl : y.length ≤ 1000) (hF : mfF (man21 id x y) = (0, none)) :
    Calls Tryz.prog 13 #[.int .i64 id, .slice a1 x.length c1, .slice a2 y.length c2] w (Ret fun v w' => ∃ s1 s2 : SA, v = .agg (mfL (man21 id x y) s1 s2).toArray ∧ Mem g w' (mfP (man21 id x y) s1 s2 ++ L)) := by
  refine zAf Tryz.func13 rfl rfl ?_
  skip
  refine zA3 (zA1 ?_); refine zBn hs rfl ze39 ?_; clear hs; intro b6 w hs
  try simp only [zzs, zzz] at hs
  refine zA6 (zA3 (zA1 ?_)); refine zA rfl (zA2 (v := .int .i64 _) rfl) ?_; refine zA rfl (zC0 ([.int .i64 1, .int .i64 10]) uz46 ze46 pl46 rfl (by simp [Value.cells]) rfl rfl) ?_; refine zDb hs rfl (row := prL (1, 10)) zDq zsPr rfl (fill_pr _ _) (by decide) (by decide) ?_; clear hs; intro b12 w hs; refine zA rfl (zA2 (v := .slice _ _ _) rfl) ?_; refine zA rfl (zA2 (v := .slice _ _ _) rfl) ?_; refine zAb rfl en14 (makeG_sl hs (id := id) (base := 10) (fin := 20) (time := 5) (l := [(1, 10)]) (RdK.one 0 rfl rfl) rfl (by simp) hx.cons.cons hy.cons.cons hxl hyl hid (by omega) hF) ?_; clear hs; rintro _ w ⟨s1, s2, rfl, hs⟩; refine zA rfl (zA2 (v := .tuple _) rfl) ?_
  refine zA rfl (zAa (v := .agg _) rfl rfl) ?_; refine zA rfl (zAa (v := .agg _) rfl rfl) ?_; refine zBn hs rfl ze39 ?_; clear hs; intro b7 w hs
  try simp only [zzs, zzz] at hs
  refine zBn hs rfl ze42 ?_; clear hs; intro b8 w hs
  try simp only [zzs, zzz] at hs
  refine zAn hs 1 rfl rfl rfl zF2 rfl rfl ?_; clear hs; intro w hs
  try simp only [zzs, zzz] at hs
  refine zAn hs 0 rfl rfl rfl zE4 rfl rfl ?_; clear hs; intro w hs
  try simp only [zzs, zzz] at hs
  refine zA6 (zA3 (zA1 ?_)); refine zA rfl (zBa hs 1 rfl zCb zF2 rfl) ?_; refine zAn hs 5 rfl rfl rfl zF2 rfl rfl ?_; clear hs; intro w hs
  try simp only [zzs, zzz] at hs
  refine zA6 ?_; refine zAc ?_; refine resG [(.cell 6 39, .agg _)] rfl ⟨⟨_, rfl, zC2 hs 5 rfl zCb zF2⟩, trivial⟩ ?_; exact ⟨_, rfl, s1, s2, rfl, hs.arr [2, 3] 6 (by decide)⟩
theorem opened_sl (hM : ErrM ad g) (hG : ErrG ad g) (hs : Mem g w (zBc p dk :: L)) {sp : Nat} {N : List ByteArray} {B : Nat} (hI : RawI N B f dk) (hmt : mtN ∈ N) (hsn : snN ∈ N) (ha : dk.armed = 0) (hcl : dk.calls < 800000) (hfn : f snN = none) (hfm : f mtN = none) {tr : Int} (htr : 1 ≤ tr ∧ tr ≤ 8) :
    Calls Tryz.prog 12 #[.pointer (some ⟨p, 0, none⟩), .pointer (some ⟨sp, 0, none⟩), .int .i64 tr] w (Ret fun v w' => ∃ l c dk2, v = .tuple #[.pointer (some ⟨l, 0, none⟩), .pointer (some ⟨c, 0, none⟩)] ∧ dk2.armed = 0 ∧ dk2.room = dk.room ∧ dk2.calls ≤ dk.calls + 2 ∧ RawI N B (zEb f mtN []) dk2 ∧ Mem g w' (zBf c sp tr 0 :: zDl l p 3 [] 0 0 0 :: zBc p dk2 :: L)) := by
  refine zAf Tryz.func12 rfl rfl ?_
  skip
  refine zA3 (zA1 ?_); refine zA rfl (zA0 (v := .pointer none) rfl) ?_; refine zA rfl (zA0 (v := .pointer none) rfl) ?_; refine zA6 (zA3 (zA1 ?_)); refine zA rfl (zA2 (v := .pointer (some _)) rfl) ?_; refine zAb rfl en40 (openN_sl (ev := 3) hM hs hI hmt hsn ha hcl (by decide) hfn hfm) ?_; clear hs; rintro _ w ⟨l, dk2, rfl, k1, k2, k3, k4, hs⟩; refine zA rfl (zA2 (v := .tuple _) rfl) ?_; refine zA rfl (zAa (v := .pointer (some _)) rfl rfl) ?_; refine zA rfl (zAa (v := .nilIface) rfl rfl) ?_; refine zA rfl (zA0 (v := .pointer (some _)) rfl) ?_; refine zA rfl (zA0 (v := .nilIface) rfl) ?_; refine zA6 (zA3 (zA1 ?_)); refine zA rfl (zA2 (v := .pointer (some _)) rfl) ?_
  refine zA rfl (zA2 (v := .int .i64 _) rfl) ?_; refine zAb rfl en41 (clnew_sl hG hs htr) ?_; clear hs; rintro _ w ⟨c, rfl, hs⟩; refine zA rfl (zA2 (v := .tuple _) rfl) ?_; refine zA rfl (zAa (v := .pointer (some _)) rfl rfl) ?_; refine zA rfl (zAa (v := .nilIface) rfl rfl) ?_; refine zA rfl (zA0 (v := .pointer (some _)) rfl) ?_; refine zA rfl (zA0 (v := .nilIface) rfl) ?_; refine zA6 ?_; refine zA3 ?_; refine zA3 (zA1 ?_); refine zA rfl (zA2 (v := .pointer (some _)) rfl) ?_; refine zA rfl (zD9 uz32 rfl rfl) ?_; refine zA rfl (zA2 (v := .bool _) rfl) ?_; refine zAi rfl rfl (rfl) ?_; refine zA rfl (zA2 (v := .pointer (some _)) rfl) ?_; refine zAi rfl rfl (rfl) ?_
  refine zA rfl (zD9 uz33 rfl rfl) ?_; refine zA rfl (zAg (v := .bool _) rfl (rfl) rfl) ?_; refine zA rfl (zA2 (v := .bool _) rfl) ?_; refine zAi rfl rfl (rfl) ?_; refine zA rfl (zA2 (v := .nilIface) rfl) ?_; refine zAi rfl rfl (rfl) ?_; refine zA rfl (zCg rfl) ?_; refine zA rfl (zAg (v := .bool _) rfl (rfl) rfl) ?_; refine zA rfl (zA2 (v := .bool _) rfl) ?_; refine zAi rfl rfl (rfl) ?_; refine zA rfl (zA2 (v := .nilIface) rfl) ?_; refine zAi rfl rfl (rfl) ?_; refine zA rfl (zCg rfl) ?_; refine zA rfl (zAg (v := .bool _) rfl (rfl) rfl) ?_; refine zA6 ?_; refine zB4 rfl (rfl) ?_; refine zAd ?_; refine zA3 (zA1 ?_); refine zA rfl (zA2 (v := .pointer (some _)) rfl) ?_
  refine zA rfl (zA2 (v := .pointer (some _)) rfl) ?_; refine zA rfl (zA0 (v := .pointer (some _)) rfl) ?_; refine zA rfl (zA0 (v := .pointer (some _)) rfl) ?_; refine zA6 ?_; refine zAc ?_; refine zDz (v := .pointer (some _)) (v2 := .pointer (some _)) rfl rfl rfl ?_; exact ⟨_, rfl, l, c, dk2, rfl, k1, k2, k3, k4, hs⟩
end
section
open Go.RowKit
attribute [local irreducible] zAh
variable {g w : World} {L M : List HP} {ad : Nat → Addr} {p : Nat} {st : St}
def outK (parts : List (Int × List UInt8)) (k : Nat) : List UInt8 := ((List.range k).map fun i => (zAw parts ((i : Nat) : Int)).getD []).flatten
theorem outK_succ {parts : List (Int × List UInt8)} {k : Nat} {b : List UInt8} (h : zAw parts ((k : Nat) : Int) = some b) : outK parts (k + 1) = outK parts k ++ b := by
  simp [outK, List.range_succ, h]
theorem outK_len {parts : List (Int × List UInt8)} {N : Nat} (h : ∀ k b, (k, b) ∈ parts → b.length ≤ N) : ∀ k, (outK parts k).length ≤ k * N
  | 0 => by simp [outK]
  | k + 1 => by
    have ih := outK_len h k
    have e : outK parts (k + 1) = outK parts k ++ (zAw parts ((k : Nat) : Int)).getD [] := by simp [outK, List.range_succ]
    have hb : ((zAw parts ((k : Nat) : Int)).getD []).length ≤ N := by
      cases ho : zAw parts ((k : Nat) : Int) with
      | none => simp
      | some b => exact h _ _ (zCq ho)
    rw [e, List.length_append, Nat.succ_mul]
    omega
def haveAll (parts : List (Int × List UInt8)) (K : Nat) : Bool := (List.range K).all fun i => (zAw parts ((i : Nat) : Int)).isSome
theorem haveAll_iff {parts : List (Int × List UInt8)} {K : Nat} : haveAll parts K = true ↔ ∀ i, i < K → (zAw parts ((i : Nat) : Int)).isSome = true := by simp [haveAll]
def St.complete1 (id k : Int) (st : St) : Nat × St := match zAw st.ups id with
  | none => (107, st)
  | some u => if k < 0 ∨ 256 < k then (105, st) else if haveAll u.parts k.toNat then (0, { st with objs := zBv st.objs u.name (outK u.parts k.toNat), ups := zDa st.ups id }) else (105, st)
theorem completeC_sl (hE : ErrG ad g) (hsm : st.small) {sb ib kb : Nat} {id k : Int} (hs : Mem g w (zB8 p st :: cells kb [.int .i64 k] 3 :: cells ib [.int .i64 id] 3 :: cells sb [.pointer (some ⟨p, 0, none⟩)] 30 :: M)) :
    Calls Tryz.prog 209 #[.pointer (some ⟨sb, 0, none⟩), .pointer (some ⟨ib, 0, none⟩), .pointer (some ⟨kb, 0, none⟩)] w (Ret fun v w' => v = zAh ad (st.complete1 id k).1 ∧ Mem g w' (zB8 p (st.complete1 id k).2 :: cells kb [.int .i64 k] 3 :: cells ib [.int .i64 id] 3 :: cells sb [.pointer (some ⟨p, 0, none⟩)] 30 :: M)) := by
  obtain ⟨mo, mu, sa, sn, sc, es, us, hn, hs⟩ := hs.openS; simp only [zCt, List.cons_append, List.nil_append] at hs; have hky := hs.famKeys 4 rfl
  have hnd : (zAl us).Nodup := by rw [← up_keys]; exact (hs.mapAt 3 rfl).nodup
  cases ho : zAw st.ups id with
  | none =>
    have he : zAw (us.map upPtr) id = none := by rw [up_aget, fam_none hky ho]; rfl
    have hp : st.complete1 id k = (107, st) := by simp [St.complete1, ho]
    rw [hp]; refine zAf Tryz.func209 rfl rfl ?_
    skip
    refine zA3 (zA1 ?_); refine zA rfl (zA0 (v := .nilIface) rfl) ?_; refine zA6 ?_; refine zA3 ?_; refine zAp zBk hs ?_; intro w tr hK; replace hs := tr _ hs; clear tr; refine zA5 0 rfl rfl (fun w hs => zA7 uz30 rfl rfl (hs.cellAt 8 rfl rfl)) hK ?_; refine zA5 1 rfl rfl (fun w hs => zA8 rfl) hK ?_; refine zA5 2 rfl rfl (fun w hs => zA4 (o' := 1) uz92 rfl sz90 rfl rfl rfl) hK ?_; refine zA5 3 rfl rfl (fun w hs => zA7 uz90 rfl rfl (hs.cellAt 0 rfl rfl)) hK ?_; refine zA5 4 rfl rfl (fun w hs => zA7 uz3 rfl rfl (hs.cellAt 7 rfl rfl)) hK ?_; refine zA5 5 rfl rfl (fun w hs => zDg (hs.mapAt 3 rfl) zDp uz90 uz3 ze141 rfl rfl he) hK ?_
    refine zA5 6 rfl rfl (fun w hs => zA0 (v := .pointer none) rfl) hK ?_; refine zAr (by kernel_rfl) ?_; clear hK; refine zA3 ?_; refine zAo ?_; refine zA3 (zA1 ?_); refine zA rfl (zA2 (v := .pointer none) rfl) ?_; refine zA rfl (zD9 uz141 rfl rfl) ?_; refine zA rfl (zA0 (v := .bool _) rfl) ?_; refine zA6 ?_; refine zB6 rfl (rfl) ?_; refine zA3 (zA1 ?_); refine zA rfl (zA7 zCe rfl rfl (hE.cellW hs 107 (by decide) rfl)) ?_; refine zA rfl (zA0 (v := zAh ad _) rfl) ?_; refine zA6 ?_; refine zAc ?_; refine zBd (v := zAh ad _) rfl rfl ?_; exact ⟨_, rfl, rfl, hs.closeS⟩
  | some u =>
    obtain ⟨⟨ub, pm⟩, hu⟩ := fam_some hky ho
    have he : zAw (us.map upPtr) id = some (.pointer (some ⟨ub, 0, none⟩)) := by rw [up_aget, hu]; rfl
    have hbad : k < 0 ∨ 256 < k → st.complete1 id k = (105, st) := fun h => by simp only [St.complete1, ho]; rw [if_pos h]
    have hlen := outK_len (hsm.2 id u (zCq ho)); refine zAf Tryz.func209 rfl rfl ?_
    skip
    refine zA3 (zA1 ?_); refine zA rfl (zA0 (v := .nilIface) rfl) ?_; refine zA6 ?_; refine zA3 ?_; refine zAp zBk hs ?_; intro w tr hK; replace hs := tr _ hs; clear tr; refine zA5 0 rfl rfl (fun w hs => zA7 uz30 rfl rfl (hs.cellAt 8 rfl rfl)) hK ?_; refine zA5 1 rfl rfl (fun w hs => zA8 rfl) hK ?_; refine zA5 2 rfl rfl (fun w hs => zA4 (o' := 1) uz92 rfl sz90 rfl rfl rfl) hK ?_; refine zA5 3 rfl rfl (fun w hs => zA7 uz90 rfl rfl (hs.cellAt 0 rfl rfl)) hK ?_; refine zA5 4 rfl rfl (fun w hs => zA7 uz3 rfl rfl (hs.cellAt 7 rfl rfl)) hK ?_; refine zA5 5 rfl rfl (fun w hs => zDg (hs.mapAt 3 rfl) zDp uz90 uz3 ze141 rfl rfl he) hK ?_
    refine zA5 6 rfl rfl (fun w hs => zA0 (v := .pointer (some _)) rfl) hK ?_; refine zAr (by kernel_rfl) ?_; clear hK; refine zA3 ?_; refine zAo ?_; refine zA3 (zA1 ?_); refine zA rfl (zA2 (v := .pointer (some _)) rfl) ?_; refine zA rfl (zD9 uz141 rfl rfl) ?_; refine zA rfl (zA0 (v := .bool _) rfl) ?_; refine zA6 ?_; refine zB4 rfl rfl ?_; refine zA3 (zA1 ?_); refine zA rfl (zA7 uz3 rfl rfl (hs.cellAt 6 rfl rfl)) ?_; refine zA rfl (zB9 rfl rfl) ?_; refine zA rfl (zA2 (v := .bool _) rfl) ?_; refine zB0 (t := _) (d := 22) rfl ?_ ?_
    ·
     intro h21; have g21 := of_decide_eq_true h21; refine zA9 rfl rfl rfl h21 ?_; refine zA9 rfl rfl rfl h21 ?_; refine zA rfl (zAk (v := .bool _) rfl h21 rfl) ?_; refine zA rfl (zA0 (v := .bool _) rfl) ?_; refine zA6 ?_; refine zB6 rfl rfl ?_; refine zA3 (zA1 ?_); refine zA rfl (zA7 zCe rfl rfl (hE.cellW hs 105 (by decide) rfl)) ?_; refine zA rfl (zA0 (v := zAh ad _) rfl) ?_; refine zA6 ?_; refine zAc ?_; refine zBd (v := zAh ad _) rfl rfl ?_; rw [hbad (by omega)]; exact ⟨_, rfl, rfl, hs.closeS⟩
    ·
     intro h21; have g21 := of_decide_eq_false h21; refine zAi rfl rfl h21 ?_; refine zA rfl (zA7 uz3 rfl rfl (hs.cellAt 6 rfl rfl)) ?_; refine zAi rfl rfl h21 ?_; refine zA rfl (zBl rfl rfl) ?_; refine zA rfl (zAg (v := .bool _) rfl h21 rfl) ?_; refine zA rfl (zA0 (v := .bool _) rfl) ?_; refine zA6 ?_; refine zB rfl ?_ ?_
     ·
      intro h24; have g24 := of_decide_eq_true h24; refine zA3 (zA1 ?_); refine zA rfl (zA7 zCe rfl rfl (hE.cellW hs 105 (by decide) rfl)) ?_; refine zA rfl (zA0 (v := zAh ad _) rfl) ?_; refine zA6 ?_; refine zAc ?_; refine zBd (v := zAh ad _) rfl rfl ?_; rw [hbad (by omega)]; exact ⟨_, rfl, rfl, hs.closeS⟩
     ·
      intro h24; have g24 := of_decide_eq_false h24; obtain ⟨K, rfl⟩ : ∃ K : Nat, k = K := ⟨k.toNat, by omega⟩; refine zAd ?_; refine zA3 ?_; obtain ⟨ps, hs⟩ := (hs.famTake 4 rfl hu ho).openU; simp only [zzs, zzz] at hs; refine zA1 ?_; refine zA rfl (zA0 (v := .slice _ _ _) rfl) ?_; refine zA6 ?_; refine zA3 ?_; refine zA3 (zA1 ?_); refine zA rfl (zA7 uz3 rfl rfl (hs.cellAt 9 rfl rfl)) ?_; refine zA rfl (zA2 (v := .int .i64 _) rfl) ?_; refine zA6 ?_; refine zAo ?_
      refine zBr (X := Nat × Option Addr × Nat) [3, 5, 6, 7, 8, 28, 29, 30, 31, 32, 33, 34, 35, 36, 37, 38, 39, 40, 41, 42, 43, 44, 45, 46] (fun x => [(5, .slice x.2.1 (outK u.parts x.1).length x.2.2), (28, .int .i64 (x.1 : Nat))]) (fun x w => x.1 ≤ K ∧ (∀ i : Nat, i < x.1 → (zAw u.parts ((i : Nat) : Int)).isSome = true) ∧ Mem g w (own (.slice x.2.1 (outK u.parts x.1).length x.2.2) (zAm (outK u.parts x.1)) :: cells ub [.string u.name, .map (some pm)] 280 :: mapI pm ps :: partsC ps u.parts :: cells p (storeL mo mu st.ids (.slice sa sn sc) st.calls st.failed) 92 :: smapS mo es :: objsC es st.objs :: mapI mu (us.map upPtr) :: famX upC (· = id) us st.ups :: own (.slice sa sn sc) (zDw st.script) :: cells kb [.int .i64 (K : Nat)] 3 :: cells ib [.int .i64 id] 3 :: cells sb [.pointer (some ⟨p, 0, none⟩)] 30 :: M)) (fun x => K - x.1) ((0, none, 0)) ?_ ?_ ?_
      · exact ⟨rfl, rfl, trivial⟩
      · exact ⟨Nat.zero_le _, (fun _ h => absurd h (Nat.not_lt_zero _)), hs.addE (zD8 _)⟩
      clear hs; rintro x ξ w hI; obtain ⟨j, a, c⟩ := x; obtain ⟨hj, hall, hs⟩ := hI; simp only at hj hall hs; refine zA3 (zA1 ?_); refine zA rfl (zB9 rfl rfl) ?_; refine zA6 ?_; refine zA3 ?_; refine zB rfl ?_ ?_
      ·
       intro h29; have g29 := of_decide_eq_true h29; obtain ⟨o, hox⟩ : ∃ o, zAw ps ((j : Nat) : Int) = o := ⟨_, rfl⟩; have hkp := hs.famKeys 3 rfl; have hlj := hlen j
       have hjj : j < K := by simpa using g29
       refine zAd ?_; refine zA3 ?_; refine zAo ?_; refine zA3 (zA1 ?_); refine zA rfl (zA2 (v := .int .i64 _) rfl) ?_; refine zA rfl (zA0 (v := .int .i64 _) rfl) ?_; refine zA6 (zA3 (zA1 ?_)); refine zA rfl (zA2 (v := .pointer (some _)) rfl) ?_; refine zA rfl (zA8 rfl) ?_; refine zA rfl (zA4 (o' := 1) uz280 rfl sz278 rfl rfl rfl) ?_; refine zA rfl (zA7 uz278 rfl rfl (hs.cellAt 1 rfl rfl)) ?_; refine zA rfl (zA2 (v := .int .i64 _) rfl) ?_; refine zA rfl (zDo (hs.mapAt 2 rfl) zDp uz278 uz3 ze22 rfl rfl hox) ?_; refine zA rfl (zA2 (v := .tuple _) rfl) ?_; refine zA rfl (zAa (v := o.getD (.slice none 0 0)) rfl rfl) ?_; refine zA rfl (zAa (v := .bool _) rfl rfl) ?_
       refine zA rfl (zA0 (v := o.getD (.slice none 0 0)) rfl) ?_; refine zA rfl (zA0 (v := .bool _) rfl) ?_; refine zA6 ?_; refine zA3 ?_; refine zA3 (zA1 ?_); refine zA rfl (zA2 (v := .bool _) rfl) ?_; refine zA rfl (zBt rfl) ?_; refine zA6 ?_; refine zB rfl ?_ ?_
       ·
        intro h39; replace h39 := zEu h39; refine zA3 (zA1 ?_); refine zA rfl (zA7 zCe rfl rfl (hE.cellW hs 105 (by decide) rfl)) ?_; refine zA rfl (zA0 (v := zAh ad _) rfl) ?_; refine zA6 ?_; refine zAc ?_; refine zBd (v := zAh ad _) rfl rfl ?_
        have hno : zAw ps ((j : Nat) : Int) = none := by cases o with | none => exact hox | some v => cases h39
        have hp : st.complete1 id K = (105, st) := by simp only [St.complete1, ho]; rw [if_neg (by omega), if_neg (fun h => by have := haveAll_iff.1 h j (by omega); rw [fam_none hkp.symm hno] at this; cases this)]
        rw [hp]; have h2 := Mem.closeU (u := u) hs.tail; have h3 := Mem.famPut (R := upC) (k := id) h2 4 rfl (fun _ h => h); rw [zDd hu, zDd ho] at h3; exact ⟨_, rfl, rfl, h3.closeS⟩
       ·
        intro h39; replace h39 := zE0 h39; obtain ⟨v, rfl⟩ := Option.isSome_iff_exists.1 h39; obtain ⟨b, hb⟩ := fam_some hkp.symm hox; obtain ⟨a2, c2, he2, hr⟩ := hs.bytesAt 3 rfl hb; rw [hox] at he2
        cases he2
        have hbl := hsm.2 id u (zCq ho) _ b (zCq hb); have hsrc := zCn (P := Tryz.prog) zCk (hr.seq hs) (zC3 b); have hle : j * 4194304 ≤ 255 * 4194304 := Nat.mul_le_mul_right _ (by omega); refine zAd ?_; refine zA1 ?_; refine zA rfl (zA2 (v := .slice _ _ _) rfl) ?_; refine zA rfl (zA2 (v := .slice _ _ _) rfl) ?_; refine zD3 hs rfl 0 rfl zCk in5 rfl rfl rfl hsrc (by simp only [zAv]; omega) (by simp only [zAv]; omega) ?_; clear hs; intro a45 c45 w hs; simp only [zzs, zzz] at hs; have e45 := outK_succ hb; rw [show zAm (outK u.parts j) ++ zAm b = zAm (outK u.parts (j + 1)) by rw [e45]; simp [zAm]] at hs
        have e46 : (zAm (outK u.parts j)).length + (zAm b).length = (outK u.parts (j + 1)).length := by rw [e45]; simp [zAm]
        rw [e46] at hs; refine zA rfl (zA0 (v := .slice _ _ _) rfl) ?_; refine zA6 ?_; refine zA1 ?_; refine zA rfl (zAu rfl rfl rfl (inI (by omega) (by omega))) ?_; refine zA rfl (zA2 (v := .int .i64 _) rfl) ?_; refine zA6 ?_; exact ⟨(j + 1, a45, c45), by simp only; omega, ⟨by simp only; omega, fun i hi => (Nat.lt_succ_iff_lt_or_eq.1 hi).elim (hall i) (fun e => by rw [e, hb]; rfl), hs⟩, ⟨show Value.slice a45 ((zAm (outK u.parts j)).length + (zAm b).length) c45 = Value.slice a45 (outK u.parts (j + 1)).length c45 from by rw [e46], rfl, trivial⟩, by repeat (first | exact Out.mix _ _ _ | refine Out.updo rfl ?_ | refine Out.upd rfl ?_ | refine Out.mixIn rfl ?_)⟩
      ·
       intro h29; have g29 := of_decide_eq_false h29
       have hjK : j = K := by (have := g29; simp only at this; omega)
       subst hjK; refine zBp rfl ?_; refine zA3 ?_; refine zAp zBk (hs.drop 5) ?_; intro w tr hK; replace hs := tr _ hs; clear tr; refine zA5 0 rfl rfl (fun w hs => zA7 uz30 rfl rfl (hs.cellAt 11 rfl rfl)) hK ?_; refine zA5 1 rfl rfl (fun w hs => zA8 rfl) hK ?_; refine zA5 2 rfl rfl (fun w hs => zA4 (o' := 0) uz92 rfl sz89 rfl rfl rfl) hK ?_; refine zA5 3 rfl rfl (fun w hs => zA7 uz89 rfl rfl (hs.cellAt 4 rfl rfl)) hK ?_; refine zA5 4 rfl rfl (fun w hs => zA2 (v := .pointer (some _)) rfl) hK ?_; refine zA5 5 rfl rfl (fun w hs => zA8 rfl) hK ?_; refine zA5 6 rfl rfl (fun w hs => zA4 (o' := 0) uz280 rfl sz9 rfl rfl rfl) hK ?_
       refine zA5 7 rfl rfl (fun w hs => zA7 uz9 rfl rfl (hs.cellAt 1 rfl rfl)) hK ?_; refine zA5 8 rfl rfl (fun w hs => zA2 (v := .slice _ _ _) rfl) hK ?_; refine zAe [9] ?_; refine ⟨⟨_, rfl, ?_⟩, trivial⟩; refine zD4 (v := .slice _ _ _) hs 5 rfl zEa uz89 uz9 rfl rfl rfl ?_; clear hs; intro w hs
       try simp only [zzs, zzz] at hs
       clear hK; have hK := hs.drop 5; refine zA6 ⟨hK, ?_⟩; refine zAr (by kernel_rfl) ?_; clear hK; refine zA3 ?_; refine zAp zBk (hs.drop 7) ?_; intro w tr hK; replace hs := tr _ hs; clear tr; refine zA5 0 rfl rfl (fun w hs => zA7 uz30 rfl rfl (hs.cellAt 11 rfl rfl)) hK ?_; refine zA5 1 rfl rfl (fun w hs => zA8 rfl) hK ?_; refine zA5 2 rfl rfl (fun w hs => zA4 (o' := 1) uz92 rfl sz90 rfl rfl rfl) hK ?_; refine zA5 3 rfl rfl (fun w hs => zA7 uz90 rfl rfl (hs.cellAt 4 rfl rfl)) hK ?_; refine zA5 4 rfl rfl (fun w hs => zA7 uz3 rfl rfl (hs.cellAt 10 rfl rfl)) hK ?_; refine zAe [5] ?_; refine ⟨⟨_, rfl, ?_⟩, trivial⟩; refine lw_delete hs rfl 7 rfl zDp uz90 uz3 rfl rfl ?_; clear hs
       intro w hs
       try simp only [zzs, zzz] at hs
       clear hK; have hK := hs.drop 7; refine zA6 ⟨hK, ?_⟩; refine zAr (by kernel_rfl) ?_; clear hK; refine zA3 (zA1 ?_); refine zA rfl (zA0 (v := .nilIface) rfl) ?_; refine zA6 ?_; refine zAc ?_; refine zBd (v := .nilIface) rfl rfl ?_
       have hp : st.complete1 id j = (0, { st with objs := zBv st.objs u.name (outK u.parts j), ups := zDa st.ups id }) := by simp only [St.complete1, ho]; rw [if_neg (by omega), if_pos (haveAll_iff.2 (fun i hi => hall i (by omega)))]; simp
       rw [hp]; have h1 := Mem.famPut (R := rdB) (k := u.name) (b := outK u.parts j) (hs.ownRd 0 rfl) 5 rfl (fun _ h => False.elim h); have h2 := Mem.famDel (R := upC) (k := id) h1 7 rfl hnd (fun _ h => h); exact ⟨_, rfl, (zAz ad).symm, Mem.closeS (st := { st with objs := zBv st.objs u.name (outK u.parts j), ups := zDa st.ups id }) (mo := mo) (mu := mu) (sv := .slice sa sn sc) (es := zBv es u.name (.slice a (outK u.parts j).length c)) (us := zDa us id) (by simp only [zCt]; rw [up_adel]; exact h2.arr [3, 4, 5, 6, 7, 8] 9 (by decide))⟩
theorem complete_sl (hE : ErrG ad g) (hsm : st.small) (hs : Mem g w (zB8 p st :: M)) (hcl : st.calls < 4611686018427387904) (hfl : st.failed < 4611686018427387904) {id k : Int} {x : Nat} {st2 : St} (hk : st.run (St.complete1 id k) = (x, st2)) :
    Calls Tryz.prog 189 #[.pointer (some ⟨p, 0, none⟩), .int .i64 id, .int .i64 k] w (Ret fun v w' => v = zAh ad x ∧ Mem g w' (zB8 p st2 :: M)) := by
  have k1 : (st.run (St.complete1 id k)).1 = x := by rw [hk]
  have k2 : (st.run (St.complete1 id k)).2 = st2 := by rw [hk]
  subst k1 k2; have hbs : st.begin.small := hsm; refine zAf Tryz.func189 rfl rfl ?_
  skip
  refine zA3 (zA1 ?_); refine zBh (v := .pointer (some _)) hs rfl rfl ?_; clear hs; intro b3 w hs
  try simp only [zzs, zzz] at hs
  refine zBh (v := .int .i64 _) hs rfl rfl ?_; clear hs; intro b4 w hs
  try simp only [zzs, zzz] at hs
  refine zBh (v := .int .i64 _) hs rfl rfl ?_; clear hs; intro b5 w hs
  try simp only [zzs, zzz] at hs
  refine zA rfl (zA0 (v := .nilIface) rfl) ?_; refine zA6 ?_; refine zA3 ?_; replace hs := hs.pick 3 rfl; simp only [List.eraseIdx_cons_succ, List.eraseIdx_cons_zero] at hs; refine zA1 ?_; refine zA rfl (zA7 uz30 rfl rfl (hs.cellAt 3 rfl rfl)) ?_; refine zA rfl (zC) ?_; refine zAb rfl en206 (call_err (cap := #[.pointer (some ⟨b3, 0, none⟩), .pointer (some ⟨b4, 0, none⟩), .pointer (some ⟨b5, 0, none⟩)]) hE hs hcl hfl (St.complete1 id k) en209 (fun w1 h1 => completeC_sl hE hbs h1)) ?_; clear hs; rintro _ w ⟨rfl, hs⟩; refine zA rfl (zA0 (v := zAh ad _) rfl) ?_; refine zA6 ?_; refine zAc ?_; refine zBd (v := zAh ad _) rfl rfl ?_; exact ⟨_, rfl, rfl, hs.arr [0] 4 (by decide)⟩
end
section
open Go.RowKit
attribute [local irreducible] zAh
variable {g w : World} {L M : List HP} {ad : Nat → Addr} {p q : Nat} {st : St}
theorem m111 : 111 ∈ zC1 := by decide
theorem m107 : 107 ∈ zC1 := by decide
theorem m106 : 106 ∈ zC1 := by decide
theorem m105 : 105 ∈ zC1 := by decide
theorem zFb {good : St → Nat × St} (hgc : ∀ st, (good st).2.calls = st.calls ∧ (good st).2.failed = st.failed) (st : St) : (st.run good).2.calls = st.calls + 1 ∧ (st.run good).2.failed ≤ st.failed + 1 := by
  unfold St.run
  split
  · exact ⟨rfl, by simp only [St.begin]; split <;> omega⟩
  · obtain ⟨h1, h2⟩ := hgc st.begin
    exact ⟨by rw [h1]; rfl, by rw [h2]; simp only [St.begin]; split <;> omega⟩
theorem runs_code {good : St → Nat × St} (hg : ∀ st, (good st).1 = 0 ∨ (good st).1 ∈ zC1) (st : St) : (st.run good).1 = 0 ∨ (st.run good).1 ∈ zC1 := by
  unfold St.run
  split
  · exact .inr m111
  · split
    · exact .inr m111
    · exact hg _
theorem again_err (good : St → Nat × St) (P : St → Prop) (hE : ErrG ad g) {f : FuncId} {cap : Array Value} {t : Nat} {a : Int} (ha : 0 ≤ a ∧ a < 1000000000000) (ht : t ≤ 8) (hs : Mem g w (zBf q p t a :: zB8 p st :: M)) (hcl : st.calls + 8 < 4611686018427387904) (hfl : st.failed + 8 < 4611686018427387904) (hP : P st)
    (hPs : ∀ st, P st → P (st.run good).2) (hgc : ∀ st, (good st).2.calls = st.calls ∧ (good st).2.failed = st.failed) (hgd : ∀ st, (good st).1 = 0 ∨ (good st).1 ∈ zC1) (hf : ∀ args w, (callFunc f args).run Tryz.prog w = .ok (.enter f args) w)
    (hdo : ∀ st a w1, st.calls < 4611686018427387904 → st.failed < 4611686018427387904 → P st → Mem g w1 (zBf q p t a :: zB8 p st :: M) → Calls Tryz.prog f cap w1 (Ret fun v w2 => v = zAh ad (st.run good).1 ∧ Mem g w2 (zBf q p t a :: zB8 p (st.run good).2 :: M)))
    {lost : Bool} {x n : Nat} {st2 : St} (hk : zBg (fun s => s.run good) t st = (lost, x, n, st2)) :
    Calls Tryz.prog 183 #[.pointer (some ⟨q, 0, none⟩), .func (.func f) #[] cap] w (Ret fun v w' => v = .tuple #[.bool lost, zAh ad x] ∧ Mem g w' (zBf q p t (a + (n : Nat)) :: zB8 p st2 :: M)) := by
  have := again_sl (fun s => zB8 p s :: M) (fun s => s.run good) (fun n s => s.calls + n < 4611686018427387904 ∧ s.failed + n < 4611686018427387904 ∧ P s) hE ha ht hs ⟨by omega, by omega, hP⟩
    (fun n s h => ⟨by have := (zFb hgc s).1; omega, by have := (zFb hgc s).2; omega, hPs s h.2.2⟩) (fun n s _ => runs_code hgd s) hf (fun n s a w1 h hs => hdo s a w1 (by omega) (by omega) h.2.2 hs)
  rw [hk] at this; exact this
theorem again_code {good : St → Nat × St} (hgd : ∀ st, (good st).1 = 0 ∨ (good st).1 ∈ zC1) : ∀ (t : Nat) (st : St), (zBg (fun s => s.run good) t st).2.1 = 0 ∨ (zBg (fun s => s.run good) t st).2.1 ∈ zC1
  | 0, _ => .inr m111
  | t + 1, st => by
    simp only [zBg]
    split
    · exact again_code hgd t _
    · exact runs_code hgd st
theorem part1_counts (id k : Int) (b : List UInt8) (st : St) : (st.part1 id k b).2.calls = st.calls ∧ (st.part1 id k b).2.failed = st.failed := by
  unfold St.part1; split
  · exact ⟨rfl, rfl⟩
  · split <;> exact ⟨rfl, rfl⟩
theorem part1_code (id k : Int) (b : List UInt8) (st : St) : (st.part1 id k b).1 = 0 ∨ (st.part1 id k b).1 ∈ zC1 := by
  unfold St.part1; split
  · exact .inr m107
  · split
    · exact .inr m105
    · exact .inl rfl
theorem clPartC_sl (hE : ErrG ad g) {t a : Int} {cb ib kb bb : Nat} {id k : Int} {b : List UInt8} {ba : Option Addr} {m c : Nat} (hcl : st.calls < 4611686018427387904) (hfl : st.failed < 4611686018427387904) (hs : Mem g w (zBf q p t a :: zB8 p st :: cells bb [.slice ba m c] 22 :: cells kb [.int .i64 k] 3 :: cells ib [.int .i64 id] 3 :: cells cb [.pointer (some ⟨q, 0, none⟩)] 33 :: M)) (hr : Rd g M (.slice ba m c) (zAm b)) (hlen : b.length ≤ 1073741824) :
    Calls Tryz.prog 186 #[.pointer (some ⟨cb, 0, none⟩), .pointer (some ⟨ib, 0, none⟩), .pointer (some ⟨kb, 0, none⟩), .pointer (some ⟨bb, 0, none⟩)] w (Ret fun v w' => v = zAh ad (st.run (St.part1 id k b)).1 ∧ Mem g w' (zBf q p t a :: zB8 p (st.run (St.part1 id k b)).2 :: cells bb [.slice ba m c] 22 :: cells kb [.int .i64 k] 3 :: cells ib [.int .i64 id] 3 :: cells cb [.pointer (some ⟨q, 0, none⟩)] 33 :: M)) := by
  refine zAf Tryz.func186 rfl rfl ?_
  skip
  refine zA3 (zA1 ?_); refine zA rfl (zA0 (v := .nilIface) rfl) ?_; refine zA6 ?_; refine zA3 ?_; refine zAp zBk (hs.drop 1) ?_; intro w tr hK; replace hs := tr _ hs; clear tr; refine zA5 0 rfl rfl (fun w hs => zA7 uz33 rfl rfl (hs.cellAt 4 rfl rfl)) hK ?_; refine zA5 1 rfl rfl (fun w hs => zA8 rfl) hK ?_; refine zA5 2 rfl rfl (fun w hs => zA4 (o' := 0) uz162 rfl sz30 rfl rfl rfl) hK ?_; refine zA5 3 rfl rfl (fun w hs => zA7 uz30 rfl rfl (hs.cellAt 0 rfl rfl)) hK ?_; refine zA5 4 rfl rfl (fun w hs => zA7 uz3 rfl rfl (hs.cellAt 3 rfl rfl)) hK ?_; refine zA5 5 rfl rfl (fun w hs => zA7 uz3 rfl rfl (hs.cellAt 2 rfl rfl)) hK ?_
  refine zA5 6 rfl rfl (fun w hs => zA7 zCk rfl rfl (hs.cellAt 1 rfl rfl)) hK ?_; refine zAe [7] ?_; refine ⟨⟨_, rfl, ?_⟩, trivial⟩; refine zAb rfl en187 (part_sl hE (hs.pick 1 rfl) hcl hfl (id := id) (k := k) (b := b) (fun w hs => hr w (hs.suffix 5 rfl)) hlen rfl) ?_; clear hs; rintro _ w ⟨rfl, hs⟩; clear hK; have hK := hs.tail; refine zA6 ⟨hK, ?_⟩; refine zA5 8 rfl rfl (fun w hs => zA0 (v := zAh ad _) rfl) hK ?_; refine zAr (by kernel_rfl) ?_; clear hK; refine zAc ?_; refine zBd (v := zAh ad _) rfl rfl ?_; exact ⟨_, rfl, rfl, hs.arr [1, 0] 2 (by decide)⟩
theorem clPart_sl (hE : ErrG ad g) {t : Nat} {a : Int} (ha : 0 ≤ a ∧ a < 1000000000000) (ht : t ≤ 8) (hs : Mem g w (zBf q p t a :: zB8 p st :: M)) (hcl : st.calls + 8 < 4611686018427387904) (hfl : st.failed + 8 < 4611686018427387904)
    {id k : Int} {b : List UInt8} {ba : Option Addr} {m c : Nat} (hr : Rd g M (.slice ba m c) (zAm b)) (hlen : b.length ≤ 1073741824) {lost : Bool} {x n : Nat} {st2 : St} (hk : zBg (fun s => s.run (St.part1 id k b)) t st = (lost, x, n, st2)) :
    Calls Tryz.prog 147 #[.pointer (some ⟨q, 0, none⟩), .int .i64 id, .int .i64 k, .slice ba m c] w (Ret fun v w' => v = zAh ad x ∧ Mem g w' (zBf q p t (a + (n : Nat)) :: zB8 p st2 :: M)) := by
  refine zAf Tryz.func147 rfl rfl ?_
  skip
  refine zA3 (zA1 ?_); refine zBh (v := .pointer (some _)) hs rfl rfl ?_; clear hs; intro b4 w hs
  try simp only [zzs, zzz] at hs
  refine zBh (v := .int .i64 _) hs rfl rfl ?_; clear hs; intro b5 w hs
  try simp only [zzs, zzz] at hs
  refine zBh (v := .int .i64 _) hs rfl rfl ?_; clear hs; intro b6 w hs
  try simp only [zzs, zzz] at hs
  refine zBh (v := .slice _ _ _) hs rfl rfl ?_; clear hs; intro b7 w hs
  try simp only [zzs, zzz] at hs
  refine zA rfl (zA0 (v := .nilIface) rfl) ?_; refine zA6 ?_; refine zA3 ?_; replace hs := hs.arr [4, 5, 0, 1, 2, 3] 6 (by decide); simp only [List.filterMap, List.getElem?_cons_succ, List.getElem?_cons_zero, List.drop_succ_cons, List.drop_zero, List.cons_append, List.nil_append] at hs; refine zA1 ?_; refine zA rfl (zA7 uz33 rfl rfl (hs.cellAt 5 rfl rfl)) ?_; refine zA rfl (zC) ?_
  refine zAb rfl en183 (again_err (cap := #[.pointer (some ⟨b4, 0, none⟩), .pointer (some ⟨b5, 0, none⟩), .pointer (some ⟨b6, 0, none⟩), .pointer (some ⟨b7, 0, none⟩)]) (St.part1 id k b) (fun _ => True) hE ha ht hs hcl hfl trivial (fun _ _ => trivial) (part1_counts id k b) (part1_code id k b) en186 (fun s a w1 h1 h2 _ hs => clPartC_sl hE h1 h2 hs hr hlen) hk) ?_; clear hs; rintro _ w ⟨rfl, hs⟩; refine zA rfl (zA2 (v := .tuple _) rfl) ?_; refine zA rfl (zAa (v := .bool _) rfl rfl) ?_; refine zA rfl (zAa (v := zAh ad _) rfl rfl) ?_; refine zA rfl (zA0 (v := .bool _) rfl) ?_; refine zA rfl (zA0 (v := zAh ad _) rfl) ?_; refine zA6 (zA3 (zA1 ?_)); refine zA rfl (zA2 (v := zAh ad _) rfl) ?_
  refine zA rfl (zA0 (v := zAh ad _) rfl) ?_; refine zA6 ?_; refine zAc ?_; refine zBd (v := zAh ad _) rfl rfl ?_; exact ⟨_, rfl, rfl, hs.arr [0, 1] 6 (by decide)⟩
end
section
open Go.RowKit
attribute [local irreducible] zAh
variable {g w : World} {L M : List HP} {ad : Nat → Addr} {p q : Nat} {st : St}
theorem run_neerr3 {ρ : Env} {w : World} {dst : Option Tmp} {ty : TypeId} {pos : String} {aft : Array Edge} {x y : Operand} {u : TypeId} {Lc : List Nat} {ad : Nat → Addr} {B : Nat} (h : Errs Lc ad B w) {c d : Nat} (hc : c = 0 ∨ c ∈ Lc) (hd : d ∈ Lc) (hx : ev ρ x = zAh ad c) (hy : ev ρ y = zAh ad d) : (execOp (ev ρ) ⟨dst, .binOp .neq 27 x y u, ty, pos, aft, none⟩).run Tryz.prog w = .ok (.value (.bool (!decide (c = d)))) w := by
  have hgd := guard_code ad .neq 27 x y (w := w) c (h.pos d hd); simp only [execOp, hx, hy, Sem.run_bind, hgd, binOp_errN, equal_err h hc hd, Result.andThen_ok, Sem.run_pure]
theorem again_codeS {σ : Type} {step : σ → Nat × σ} (h : ∀ s, (step s).1 = 0 ∨ (step s).1 ∈ zC1) : ∀ (t : Nat) (s : σ), (zBg step t s).2.1 = 0 ∨ (zBg step t s).2.1 ∈ zC1
  | 0, _ => .inr m111
  | t + 1, s => by
    simp only [zBg]
    split
    · exact again_codeS h t _
    · exact h _
theorem zF (n : ByteArray) (st : St) : (st.startR n).2.2.calls = st.calls + 1 ∧ (st.startR n).2.2.failed ≤ st.failed + 1 ∧ (st.startR n).2.2.ids ≤ st.ids + 1 := by
  have h : ∀ s : St, (s.start1 n).2.2.calls = s.calls ∧ (s.start1 n).2.2.failed = s.failed ∧ (s.start1 n).2.2.ids ≤ s.ids + 1 := fun s => by unfold St.start1; split <;> exact ⟨rfl, rfl, by simp⟩
  have hb : st.begin.calls = st.calls + 1 ∧ st.begin.failed ≤ st.failed + 1 ∧ st.begin.ids = st.ids := ⟨rfl, by simp only [St.begin]; split <;> omega, rfl⟩; obtain ⟨h1, h2, h3⟩ := h st.begin
  unfold St.startR
  split
  · exact ⟨hb.1, hb.2.1, by rw [hb.2.2]; omega⟩
  · split <;> exact ⟨by rw [h1]; exact hb.1, by rw [h2]; exact hb.2.1, by rw [hb.2.2] at h3; exact h3⟩
theorem startR_code (n : ByteArray) (st : St) : (st.startR n).2.1 = 0 ∨ (st.startR n).2.1 ∈ zC1 := by
  unfold St.startR St.start1
  split
  · exact .inr m111
  · split
    · exact .inr m111
    · split
      · exact .inl rfl
      · exact .inr m106
abbrev zBi (n : ByteArray) (s : St × Int) : Nat × St × Int := ((s.1.startR n).2.1, (s.1.startR n).2.2, (s.1.startR n).1)
theorem clStartC_sl (hE : ErrG ad g) {t a : Int} {cb nb ib : Nat} {n : ByteArray} {i : Int} (hid : st.ids < 4611686018427387904) (hcl : st.calls < 4611686018427387904) (hfl : st.failed < 4611686018427387904) (hs : Mem g w (zBf q p t a :: zB8 p st :: cells ib [.int .i64 i] 3 :: cells nb [.string n] 9 :: cells cb [.pointer (some ⟨q, 0, none⟩)] 33 :: M)) :
    Calls Tryz.prog 184 #[.pointer (some ⟨cb, 0, none⟩), .pointer (some ⟨nb, 0, none⟩), .pointer (some ⟨ib, 0, none⟩)] w (Ret fun v w' => v = zAh ad (st.startR n).2.1 ∧ Mem g w' (zBf q p t a :: zB8 p (st.startR n).2.2 :: cells ib [.int .i64 (st.startR n).1] 3 :: cells nb [.string n] 9 :: cells cb [.pointer (some ⟨q, 0, none⟩)] 33 :: M)) := by
  refine zAf Tryz.func184 rfl rfl ?_
  skip
  refine zA3 (zA1 ?_); refine zA rfl (zA0 (v := .nilIface) rfl) ?_; refine zA6 ?_; refine zA3 ?_; refine zAp zBk ((hs.drop 1).drop 1) ?_; intro w tr hK; replace hs := tr _ hs; clear tr; refine zA5 0 rfl rfl (fun w hs => zA7 uz33 rfl rfl (hs.cellAt 2 rfl rfl)) hK ?_; refine zA5 1 rfl rfl (fun w hs => zA8 rfl) hK ?_; refine zA5 2 rfl rfl (fun w hs => zA4 (o' := 0) uz162 rfl sz30 rfl rfl rfl) hK ?_; refine zA5 3 rfl rfl (fun w hs => zA7 uz30 rfl rfl (hs.cellAt 0 rfl rfl)) hK ?_; refine zA5 4 rfl rfl (fun w hs => zA7 uz9 rfl rfl (hs.cellAt 1 rfl rfl)) hK ?_; refine zAe [5] ?_; refine ⟨⟨_, rfl, ?_⟩, trivial⟩; refine zAb rfl en185 (start_sl hE (hs.pick 1 rfl) hid hcl hfl (n := n) rfl) ?_
  clear hs; rintro _ w ⟨rfl, hs⟩; clear hK; have hK := hs.tail.drop 1; refine zA6 ⟨hK, ?_⟩; refine zA5 6 rfl rfl (fun w hs => zA2 (v := .tuple _) rfl) hK ?_; refine zA5 7 rfl rfl (fun w hs => zAa (v := .int .i64 _) rfl rfl) hK ?_; refine zA5 8 rfl rfl (fun w hs => zAa (v := zAh ad _) rfl rfl) hK ?_; refine zAe [9] ?_; refine ⟨⟨_, rfl, ?_⟩, trivial⟩; refine zB5 (v := .int .i64 _) hs 2 rfl sz3 rfl rfl rfl rfl ?_; clear hs; intro w hs
  try simp only [zzs, zzz] at hs
  clear hK; have hK := hs.tail.drop 1; refine zA6 ⟨hK, ?_⟩; refine zA5 10 rfl rfl (fun w hs => zA0 (v := zAh ad _) rfl) hK ?_; refine zAr (by kernel_rfl) ?_; clear hK; refine zA3 (zA1 ?_); refine zA rfl (zA2 (v := zAh ad _) rfl) ?_; refine zA rfl (zA0 (v := zAh ad _) rfl) ?_; refine zA6 ?_; refine zAc ?_; refine zBd (v := zAh ad _) rfl rfl ?_; exact ⟨_, rfl, rfl, hs.arr [1, 0] 2 (by decide)⟩
theorem clStart_sl (hE : ErrG ad g) {t : Nat} {a : Int} (ha : 0 ≤ a ∧ a < 1000000000000) (ht : t ≤ 8) (hs : Mem g w (zBf q p t a :: zB8 p st :: M)) (hid : st.ids + 8 < 4611686018427387904) (hcl : st.calls + 8 < 4611686018427387904) (hfl : st.failed + 8 < 4611686018427387904)
    {nm : ByteArray} {lost : Bool} {x n : Nat} {st2 : St} {i : Int} (hk : zBg (zBi nm) t (st, 0) = (lost, x, n, st2, i)) :
    Calls Tryz.prog 145 #[.pointer (some ⟨q, 0, none⟩), .string nm] w (Ret fun v w' => v = .tuple #[.int .i64 i, zAh ad x] ∧ Mem g w' (zBf q p t (a + (n : Nat)) :: zB8 p st2 :: M)) := by
  refine zAf Tryz.func145 rfl rfl ?_
  skip
  refine zA3 (zA1 ?_); refine zBh (v := .pointer (some _)) hs rfl rfl ?_; clear hs; intro b2 w hs
  try simp only [zzs, zzz] at hs
  refine zBh (v := .string _) hs rfl rfl ?_; clear hs; intro b3 w hs
  try simp only [zzs, zzz] at hs
  refine zA rfl (zA0 (v := .int .i64 _) rfl) ?_; refine zA rfl (zA0 (v := .nilIface) rfl) ?_; refine zA6 (zA3 (zA1 ?_)); refine zBn hs rfl ze3 ?_; clear hs; intro b6 w hs
  try simp only [zzs, zzz] at hs
  refine zB5 (v := .int .i64 _) hs 0 rfl sz3 rfl rfl rfl rfl ?_; clear hs; intro w hs
  try simp only [zzs, zzz] at hs
  refine zA6 ?_; refine zA3 ?_; replace hs := hs.arr [3, 4, 0, 1, 2] 5 (by decide); simp only [List.filterMap, List.getElem?_cons_succ, List.getElem?_cons_zero, List.drop_succ_cons, List.drop_zero, List.cons_append, List.nil_append] at hs; refine zA1 ?_; refine zA rfl (zA7 uz33 rfl rfl (hs.cellAt 4 rfl rfl)) ?_; refine zA rfl (zC) ?_
  refine zAb rfl en183 (again_sl (cap := #[.pointer (some ⟨b2, 0, none⟩), .pointer (some ⟨b3, 0, none⟩), .pointer (some ⟨b6, 0, none⟩)]) (s := (st, (0 : Int))) (fun x : St × Int => zB8 p x.1 :: cells b6 [.int .i64 x.2] 3 :: cells b3 [.string nm] 9 :: cells b2 [.pointer (some ⟨q, 0, none⟩)] 33 :: M) (zBi nm) (fun n x => x.1.calls + n < 4611686018427387904 ∧ x.1.failed + n < 4611686018427387904 ∧ x.1.ids + n < 4611686018427387904) hE ha ht hs ⟨by simp only; omega, by simp only; omega, by simp only; omega⟩ (fun n s h => by have := zF nm s.1; simp only [zBi]; omega) (fun n s _ => startR_code nm s.1) en184 (fun n s a w1 h hs => clStartC_sl hE (by omega) (by omega) (by omega) hs)) ?_; clear hs
  rintro _ w ⟨rfl, hs⟩; refine zA rfl (zA2 (v := .tuple _) rfl) ?_; refine zA rfl (zAa (v := .bool _) rfl rfl) ?_; refine zA rfl (zAa (v := zAh ad _) rfl rfl) ?_; refine zA rfl (zA0 (v := .bool _) rfl) ?_; refine zA rfl (zA0 (v := zAh ad _) rfl) ?_; refine zA6 ?_; rw [hk] at hs; refine zA3 (zA1 ?_); refine zA rfl (zA7 uz3 rfl rfl (hs.cellAt 2 rfl rfl)) ?_; refine zA rfl (zA2 (v := zAh ad _) rfl) ?_; refine zA rfl (zA0 (v := .int .i64 _) rfl) ?_; refine zA rfl (zA0 (v := zAh ad _) rfl) ?_; refine zA6 ?_; refine zAc ?_; refine zDz (v := .int .i64 _) (v2 := zAh ad _) rfl rfl rfl ?_; exact ⟨_, rfl, by rw [hk], hs.arr [0, 1] 5 (by decide)⟩
theorem zD5 (n : ByteArray) (st : St) : (st.headR n).2.2.2 = st.begin := by unfold St.headR; split <;> (try split) <;> rfl
theorem begin_counts (st : St) : st.begin.calls = st.calls + 1 ∧ st.begin.failed ≤ st.failed + 1 := ⟨rfl, by simp only [St.begin]; split <;> omega⟩
theorem headR_code (n : ByteArray) (st : St) : (st.headR n).2.2.1 = 0 ∨ (st.headR n).2.2.1 ∈ zC1 := by
  unfold St.headR St.head1
  split
  · exact .inr m111
  · cases zAw st.begin.objs n with
    | none => exact .inr m107
    | some b => exact .inl rfl
abbrev zBw (n : ByteArray) (s : St × Int × Int) : Nat × St × Int × Int := ((s.1.headR n).2.2.1, (s.1.headR n).2.2.2, (s.1.headR n).1, (s.1.headR n).2.1)
theorem clHeadC_sl (hE : ErrG ad g) (hsm : st.small) {t a : Int} {cb nb lb ub : Nat} {n : ByteArray} {i j : Int} (hcl : st.calls < 4611686018427387904) (hfl : st.failed < 4611686018427387904) (hs : Mem g w (zBf q p t a :: zB8 p st :: cells ub [.int .u32 j] 64 :: cells lb [.int .i64 i] 3 :: cells nb [.string n] 9 :: cells cb [.pointer (some ⟨q, 0, none⟩)] 33 :: M)) :
    Calls Tryz.prog 210 #[.pointer (some ⟨cb, 0, none⟩), .pointer (some ⟨nb, 0, none⟩), .pointer (some ⟨lb, 0, none⟩), .pointer (some ⟨ub, 0, none⟩)] w (Ret fun v w' => v = zAh ad (st.headR n).2.2.1 ∧ Mem g w' (zBf q p t a :: zB8 p (st.headR n).2.2.2 :: cells ub [.int .u32 (st.headR n).2.1] 64 :: cells lb [.int .i64 (st.headR n).1] 3 :: cells nb [.string n] 9 :: cells cb [.pointer (some ⟨q, 0, none⟩)] 33 :: M)) := by
  refine zAf Tryz.func210 rfl rfl ?_
  skip
  refine zA3 (zA1 ?_); refine zA rfl (zA0 (v := .nilIface) rfl) ?_; refine zA6 ?_; refine zA3 ?_; refine zAp zBk (((hs.drop 1).drop 1).drop 1) ?_; intro w tr hK; replace hs := tr _ hs; clear tr; refine zA5 0 rfl rfl (fun w hs => zA7 uz33 rfl rfl (hs.cellAt 2 rfl rfl)) hK ?_; refine zA5 1 rfl rfl (fun w hs => zA8 rfl) hK ?_; refine zA5 2 rfl rfl (fun w hs => zA4 (o' := 0) uz162 rfl sz30 rfl rfl rfl) hK ?_; refine zA5 3 rfl rfl (fun w hs => zA7 uz30 rfl rfl (hs.cellAt 0 rfl rfl)) hK ?_; refine zA5 4 rfl rfl (fun w hs => zA7 uz9 rfl rfl (hs.cellAt 1 rfl rfl)) hK ?_; refine zAe [5] ?_; refine ⟨⟨_, rfl, ?_⟩, trivial⟩; refine zAb rfl en211 (head_sl hE hsm (hs.pick 1 rfl) hcl hfl n rfl) ?_
  clear hs; rintro _ w ⟨rfl, hs⟩; clear hK; have hK := (hs.tail.drop 1).drop 1; refine zA6 ⟨hK, ?_⟩; refine zA5 6 rfl rfl (fun w hs => zA2 (v := .tuple _) rfl) hK ?_; refine zA5 7 rfl rfl (fun w hs => zAa (v := .int .i64 _) rfl rfl) hK ?_; refine zA5 8 rfl rfl (fun w hs => zAa (v := .int .u32 _) rfl rfl) hK ?_; refine zA5 9 rfl rfl (fun w hs => zAa (v := zAh ad _) rfl rfl) hK ?_; refine zAe [10] ?_; refine ⟨⟨_, rfl, ?_⟩, trivial⟩; refine zB5 (v := .int .i64 _) hs 3 rfl sz3 rfl rfl rfl rfl ?_; clear hs; intro w hs
  try simp only [zzs, zzz] at hs
  clear hK; have hK := (hs.tail.drop 1).drop 1; refine zA6 ⟨hK, ?_⟩; refine zAe [11] ?_; refine ⟨⟨_, rfl, ?_⟩, trivial⟩; refine zB5 (v := .int .u32 _) hs 2 rfl sz64 rfl rfl rfl rfl ?_; clear hs; intro w hs
  try simp only [zzs, zzz] at hs
  clear hK; have hK := (hs.tail.drop 1).drop 1; refine zA6 ⟨hK, ?_⟩; refine zA5 12 rfl rfl (fun w hs => zA0 (v := zAh ad _) rfl) hK ?_; refine zAr (by kernel_rfl) ?_; clear hK; refine zA3 (zA1 ?_); refine zA rfl (zA2 (v := zAh ad _) rfl) ?_; refine zA rfl (zA0 (v := zAh ad _) rfl) ?_; refine zA6 ?_; refine zAc ?_; refine zBd (v := zAh ad _) rfl rfl ?_; exact ⟨_, rfl, rfl, hs.arr [1, 0] 2 (by decide)⟩
theorem clHead_sl (hE : ErrG ad g) (hsm : st.small) {t : Nat} {a : Int} (ha : 0 ≤ a ∧ a < 1000000000000) (ht : t ≤ 8) (hs : Mem g w (zBf q p t a :: zB8 p st :: M)) (hcl : st.calls + 8 < 4611686018427387904) (hfl : st.failed + 8 < 4611686018427387904)
    {nm : ByteArray} {lost : Bool} {x n : Nat} {st2 : St} {i j : Int} (hk : zBg (zBw nm) t (st, 0, 0) = (lost, x, n, st2, i, j)) :
    Calls Tryz.prog 190 #[.pointer (some ⟨q, 0, none⟩), .string nm] w (Ret fun v w' => v = .tuple #[.int .i64 i, .int .u32 j, zAh ad x] ∧ Mem g w' (zBf q p t (a + (n : Nat)) :: zB8 p st2 :: M)) := by
  refine zAf Tryz.func190 rfl rfl ?_
  skip
  refine zA3 (zA1 ?_); refine zBh (v := .pointer (some _)) hs rfl rfl ?_; clear hs; intro b2 w hs
  try simp only [zzs, zzz] at hs
  refine zBh (v := .string _) hs rfl rfl ?_; clear hs; intro b3 w hs
  try simp only [zzs, zzz] at hs
  refine zA rfl (zA0 (v := .int .i64 _) rfl) ?_; refine zA rfl (zA0 (v := .int .u32 _) rfl) ?_; refine zA rfl (zA0 (v := .nilIface) rfl) ?_; refine zA6 (zA3 (zA1 ?_)); refine zBn hs rfl ze3 ?_; clear hs; intro b7 w hs
  try simp only [zzs, zzz] at hs
  refine zBn hs rfl ze64 ?_; clear hs; intro b8 w hs
  try simp only [zzs, zzz] at hs
  refine zB5 (v := .int .i64 _) hs 1 rfl sz3 rfl rfl rfl rfl ?_; clear hs; intro w hs
  try simp only [zzs, zzz] at hs
  refine zB5 (v := .int .u32 _) hs 0 rfl sz64 rfl rfl rfl rfl ?_; clear hs; intro w hs
  try simp only [zzs, zzz] at hs
  refine zA6 ?_; refine zA3 ?_; replace hs := hs.arr [4, 5, 0, 1, 2, 3] 6 (by decide); simp only [List.filterMap, List.getElem?_cons_succ, List.getElem?_cons_zero, List.drop_succ_cons, List.drop_zero, List.cons_append, List.nil_append] at hs; refine zA1 ?_; refine zA rfl (zA7 uz33 rfl rfl (hs.cellAt 5 rfl rfl)) ?_; refine zA rfl (zC) ?_
  refine zAb rfl en183 (again_sl (cap := #[.pointer (some ⟨b2, 0, none⟩), .pointer (some ⟨b3, 0, none⟩), .pointer (some ⟨b7, 0, none⟩), .pointer (some ⟨b8, 0, none⟩)]) (s := (st, (0 : Int), (0 : Int))) (fun x : St × Int × Int => zB8 p x.1 :: cells b8 [.int .u32 x.2.2] 64 :: cells b7 [.int .i64 x.2.1] 3 :: cells b3 [.string nm] 9 :: cells b2 [.pointer (some ⟨q, 0, none⟩)] 33 :: M) (zBw nm) (fun n x => x.1.calls + n < 4611686018427387904 ∧ x.1.failed + n < 4611686018427387904 ∧ x.1.small) hE ha ht hs ⟨by simp only; omega, by simp only; omega, hsm⟩ (fun n s h => by have := begin_counts s.1; simp only [zBw, zD5]; exact ⟨by omega, by omega, h.2.2⟩) (fun n s _ => headR_code nm s.1) en210 (fun n s a w1 h hs => clHeadC_sl hE h.2.2 (by omega) (by omega) hs)) ?_
  clear hs; rintro _ w ⟨rfl, hs⟩; refine zA rfl (zA2 (v := .tuple _) rfl) ?_; refine zA rfl (zAa (v := .bool _) rfl rfl) ?_; refine zA rfl (zAa (v := zAh ad _) rfl rfl) ?_; refine zA rfl (zA0 (v := .bool _) rfl) ?_; refine zA rfl (zA0 (v := zAh ad _) rfl) ?_; refine zA6 ?_; rw [hk] at hs; refine zA3 ?_; refine zAp zBk hs ?_; intro w tr hK; replace hs := tr _ hs; clear tr; refine zA5 0 rfl rfl (fun w hs => zA7 uz3 rfl rfl (hs.cellAt 3 rfl rfl)) hK ?_; refine zA5 1 rfl rfl (fun w hs => zA7 uz64 rfl rfl (hs.cellAt 2 rfl rfl)) hK ?_; refine zA5 2 rfl rfl (fun w hs => zA2 (v := zAh ad _) rfl) hK ?_; refine zA5 3 rfl rfl (fun w hs => zA0 (v := .int .i64 _) rfl) hK ?_
  refine zA5 4 rfl rfl (fun w hs => zA0 (v := .int .u32 _) rfl) hK ?_; refine zA5 5 rfl rfl (fun w hs => zA0 (v := zAh ad _) rfl) hK ?_; refine zAr (by kernel_rfl) ?_; clear hK; refine zAc ?_; refine res3 (v := .int .i64 _) (v2 := .int .u32 _) (v3 := zAh ad _) rfl rfl rfl rfl ?_; exact ⟨_, rfl, by rw [hk], hs.arr [0, 1] 6 (by decide)⟩
theorem zEv (id k : Int) (st : St) : (st.complete1 id k).2.calls = st.calls ∧ (st.complete1 id k).2.failed = st.failed := by
  unfold St.complete1; split
  · exact ⟨rfl, rfl⟩
  · split
    · exact ⟨rfl, rfl⟩
    · split <;> exact ⟨rfl, rfl⟩
theorem zFq (id k : Int) (st : St) : (st.complete1 id k).1 = 0 ∨ (st.complete1 id k).1 ∈ zC1 := by
  unfold St.complete1; split
  · exact .inr m107
  · split
    · exact .inr m105
    · split
      · exact .inl rfl
      · exact .inr m105
theorem aput_mem {κ α : Type} [DecidableEq κ] {l : List (κ × α)} {k k' : κ} {v v' : α} (h : (k', v') ∈ zBv l k v) : (k', v') = (k, v) ∨ (k', v') ∈ l := by
  induction l with
  | nil => simp [zBv] at h; exact .inl (by rw [h.1, h.2])
  | cons x l ih =>
    obtain ⟨a, b⟩ := x; simp only [zBv] at h
    split at h
    · rcases List.mem_cons.1 h with h | h
      · exact .inl h
      · exact .inr (List.mem_cons_of_mem _ h)
    · rcases List.mem_cons.1 h with h | h
      · exact .inr (by rw [h]; exact List.mem_cons_self ..)
      · rcases ih h with h | h
        · exact .inl h
        · exact .inr (List.mem_cons_of_mem _ h)
theorem adel_mem {κ α : Type} [DecidableEq κ] {l : List (κ × α)} {k k' : κ} {v' : α} (h : (k', v') ∈ zDa l k) : (k', v') ∈ l := by
  induction l with
  | nil => simp [zDa] at h
  | cons x l ih =>
    obtain ⟨a, b⟩ := x; simp only [zDa] at h
    split at h
    · exact List.mem_cons_of_mem _ h
    · rcases List.mem_cons.1 h with h | h
      · rw [h]; exact List.mem_cons_self ..
      · exact List.mem_cons_of_mem _ (ih h)
theorem zE6 {st : St} (h : st.small) (id k : Int) : (st.complete1 id k).2.small := by
  unfold St.complete1
  split
  · exact h
  · rename_i u hu
    split
    · exact h
    · rename_i hk
      split
      · refine ⟨fun n b hm => ?_, fun i u hm => h.2 i u (adel_mem hm)⟩
        rcases aput_mem hm with hm | hm
        · simp only [Prod.mk.injEq] at hm
          rw [hm.2]; have := outK_len (h.2 id u (zCq hu)) k.toNat; have h2 : k.toNat * 4194304 ≤ 256 * 4194304 := Nat.mul_le_mul_right _ (by omega)
          omega
        · exact h.1 n b hm
      · exact h
theorem run_small {good : St → Nat × St} (hg : ∀ st : St, st.small → (good st).2.small) {st : St} (h : st.small) : (st.run good).2.small := by
  have hb : st.begin.small := h
  unfold St.run
  split
  · exact hb
  · exact hg _ hb
theorem againR_run {good : St → Nat × St} (hgc : ∀ st, (good st).2.calls = st.calls ∧ (good st).2.failed = st.failed) (hgs : ∀ st : St, st.small → (good st).2.small) : ∀ (t : Nat) (st : St), st.small → (zBg (fun s => s.run good) t st).2.2.2.calls ≤ st.calls + t ∧ (zBg (fun s => s.run good) t st).2.2.2.failed ≤ st.failed + t ∧ (zBg (fun s => s.run good) t st).2.2.2.small ∧ (zBg (fun s => s.run good) t st).2.2.1 ≤ t
  | 0, st, h => ⟨Nat.le_refl _, Nat.le_refl _, h, Nat.le_refl _⟩
  | t + 1, st, h => by
    have h1 := zFb hgc st; have h2 := run_small hgs h; have ih := againR_run hgc hgs t _ h2; simp only [zBg]
    split
    · exact ⟨by simp only; omega, by simp only; omega, ih.2.2.1, by simp only; omega⟩
    · exact ⟨by simp only; omega, by simp only; omega, h2, by simp only; omega⟩
theorem clCompleteC_sl (hE : ErrG ad g) (hsm : st.small) {t a : Int} {cb ib kb : Nat} {id k : Int} (hcl : st.calls < 4611686018427387904) (hfl : st.failed < 4611686018427387904) (hs : Mem g w (zBf q p t a :: zB8 p st :: cells kb [.int .i64 k] 3 :: cells ib [.int .i64 id] 3 :: cells cb [.pointer (some ⟨q, 0, none⟩)] 33 :: M)) :
    Calls Tryz.prog 188 #[.pointer (some ⟨cb, 0, none⟩), .pointer (some ⟨ib, 0, none⟩), .pointer (some ⟨kb, 0, none⟩)] w (Ret fun v w' => v = zAh ad (st.run (St.complete1 id k)).1 ∧ Mem g w' (zBf q p t a :: zB8 p (st.run (St.complete1 id k)).2 :: cells kb [.int .i64 k] 3 :: cells ib [.int .i64 id] 3 :: cells cb [.pointer (some ⟨q, 0, none⟩)] 33 :: M)) := by
  refine zAf Tryz.func188 rfl rfl ?_
  skip
  refine zA3 (zA1 ?_); refine zA rfl (zA0 (v := .nilIface) rfl) ?_; refine zA6 ?_; refine zA3 ?_; refine zAp zBk (hs.drop 1) ?_; intro w tr hK; replace hs := tr _ hs; clear tr; refine zA5 0 rfl rfl (fun w hs => zA7 uz33 rfl rfl (hs.cellAt 3 rfl rfl)) hK ?_; refine zA5 1 rfl rfl (fun w hs => zA8 rfl) hK ?_; refine zA5 2 rfl rfl (fun w hs => zA4 (o' := 0) uz162 rfl sz30 rfl rfl rfl) hK ?_; refine zA5 3 rfl rfl (fun w hs => zA7 uz30 rfl rfl (hs.cellAt 0 rfl rfl)) hK ?_; refine zA5 4 rfl rfl (fun w hs => zA7 uz3 rfl rfl (hs.cellAt 2 rfl rfl)) hK ?_; refine zA5 5 rfl rfl (fun w hs => zA7 uz3 rfl rfl (hs.cellAt 1 rfl rfl)) hK ?_; refine zAe [6] ?_; refine ⟨⟨_, rfl, ?_⟩, trivial⟩
  refine zAb rfl en189 (complete_sl hE hsm (hs.pick 1 rfl) hcl hfl (id := id) (k := k) rfl) ?_; clear hs; rintro _ w ⟨rfl, hs⟩; clear hK; have hK := hs.tail; refine zA6 ⟨hK, ?_⟩; refine zA5 7 rfl rfl (fun w hs => zA0 (v := zAh ad _) rfl) hK ?_; refine zAr (by kernel_rfl) ?_; clear hK; refine zAc ?_; refine zBd (v := zAh ad _) rfl rfl ?_; exact ⟨_, rfl, rfl, hs.arr [1, 0] 2 (by decide)⟩
theorem clComplete_sl (hE : ErrG ad g) (hsm : st.small) {t : Nat} {a : Int} (ha : 0 ≤ a ∧ a < 900000000000) (ht : t ≤ 8) (hs : Mem g w (zBf q p t a :: zB8 p st :: M)) (hcl : st.calls + 16 < 4611686018427387904) (hfl : st.failed + 16 < 4611686018427387904)
    {id k size sum : Int} {nm : ByteArray} {lost l2 : Bool} {x y n m : Nat} {st2 st3 : St} {i j : Int} (hk : zBg (fun s => s.run (St.complete1 id k)) t st = (lost, x, n, st2)) (hq : zBg (zBw nm) t (st2, 0, 0) = (l2, y, m, st3, i, j)) :
    Calls Tryz.prog 148 #[.pointer (some ⟨q, 0, none⟩), .int .i64 id, .int .i64 k, .string nm, .int .i64 size, .int .u32 sum] w
      (Ret fun v w' => v = zAh ad (if lost = true ∧ x = 107 then (if y = 111 then 111 else if y = 0 ∧ i = size ∧ j = sum then 0 else 107) else x) ∧ Mem g w' (zBf q p t (a + (if lost = true ∧ x = 107 then n + m else n : Nat)) :: zB8 p (if lost = true ∧ x = 107 then st3 else st2) :: M)) := by
  have hx := again_code (good := St.complete1 id k) (zFq id k) t st; have hst := againR_run (zEv id k) (fun st h => zE6 h id k) t st hsm; rw [hk] at hx hst; simp only at hx hst; have hy := again_codeS (step := zBw nm) (fun s => headR_code nm s.1) t (st2, 0, 0); rw [hq] at hy; simp only at hy; refine zAf Tryz.func148 rfl rfl ?_
  skip
  refine zA3 (zA1 ?_); refine zBh (v := .pointer (some _)) hs rfl rfl ?_; clear hs; intro b6 w hs
  try simp only [zzs, zzz] at hs
  refine zBh (v := .int .i64 _) hs rfl rfl ?_; clear hs; intro b7 w hs
  try simp only [zzs, zzz] at hs
  refine zBh (v := .int .i64 _) hs rfl rfl ?_; clear hs; intro b8 w hs
  try simp only [zzs, zzz] at hs
  refine zA rfl (zA0 (v := .nilIface) rfl) ?_; refine zA6 ?_; refine zA3 ?_; replace hs := hs.arr [3, 4, 0, 1, 2] 5 (by decide); simp only [List.filterMap, List.getElem?_cons_succ, List.getElem?_cons_zero, List.drop_succ_cons, List.drop_zero, List.cons_append, List.nil_append] at hs; refine zA1 ?_; refine zA rfl (zA7 uz33 rfl rfl (hs.cellAt 4 rfl rfl)) ?_; refine zA rfl (zC) ?_
  refine zAb rfl en183 (again_err (cap := #[.pointer (some ⟨b6, 0, none⟩), .pointer (some ⟨b7, 0, none⟩), .pointer (some ⟨b8, 0, none⟩)]) (St.complete1 id k) St.small hE ⟨ha.1, by omega⟩ ht hs (by omega) (by omega) hsm (fun _ h => run_small (fun st h => zE6 h id k) h) (zEv id k) (zFq id k) en188 (fun s a w1 h1 h2 hsm hs => clCompleteC_sl hE hsm h1 h2 hs) hk) ?_; clear hs; rintro _ w ⟨rfl, hs⟩; refine zA rfl (zA2 (v := .tuple _) rfl) ?_; refine zA rfl (zAa (v := .bool _) rfl rfl) ?_; refine zA rfl (zAa (v := zAh ad _) rfl rfl) ?_; refine zA rfl (zA0 (v := .bool _) rfl) ?_; refine zA rfl (zA0 (v := zAh ad _) rfl) ?_; refine zA6 ?_; refine zA3 ?_; refine zA3 (zA1 ?_)
  refine zA rfl (zA2 (v := .bool _) rfl) ?_; refine zA rfl (zBt rfl) ?_; refine zA rfl (zA2 (v := .bool _) rfl) ?_; refine zB0 (t := _) (d := 26) rfl ?_ ?_
  ·
   intro h22; replace h22 := zEu h22; refine zA9 rfl rfl rfl (zCd h22) ?_; refine zA9 rfl rfl rfl (zCd h22) ?_; refine zA9 rfl rfl rfl (zCd h22) ?_; refine zA rfl (zAk (v := .bool _) rfl (zCd h22) rfl) ?_; refine zA6 ?_; refine zB6 rfl rfl ?_; refine zA3 (zA1 ?_); refine zA rfl (zA2 (v := zAh ad _) rfl) ?_; refine zA rfl (zA0 (v := zAh ad _) rfl) ?_; refine zA6 ?_; refine zAc ?_; refine zBd (v := zAh ad _) rfl rfl ?_
   have hc : ¬ (lost = true ∧ x = 107) := by simp [h22]
   simp only [if_neg hc]; exact ⟨_, rfl, rfl, hs.arr [0, 1] 5 (by decide)⟩
  ·
   intro h22; replace h22 := zE0 h22; refine zAi rfl rfl (zBj h22) ?_; refine zA rfl (zA2 (v := zAh ad _) rfl) ?_; refine zAi rfl rfl (zBj h22) ?_; refine zA rfl (zA7 zCe rfl rfl (hE.cellW hs 107 (by decide) rfl)) ?_; refine zAi rfl rfl (zBj h22) ?_; refine zA rfl (run_neerr3 (hE.atW hs) hx m107 (c := x) (d := 107) rfl rfl) ?_; refine zA rfl (zAg (v := .bool _) rfl (zBj h22) rfl) ?_; refine zA6 ?_; refine zB rfl ?_ ?_
   ·
    intro h29; have g29 := zEt h29; refine zA3 (zA1 ?_); refine zA rfl (zA2 (v := zAh ad _) rfl) ?_; refine zA rfl (zA0 (v := zAh ad _) rfl) ?_; refine zA6 ?_; refine zAc ?_; refine zBd (v := zAh ad _) rfl rfl ?_
    have hc : ¬ (lost = true ∧ x = 107) := fun h => g29 h.2
    simp only [if_neg hc]; exact ⟨_, rfl, rfl, hs.arr [0, 1] 5 (by decide)⟩
   ·
    intro h29; have g29 := zEs h29; refine zAd ?_; refine zA3 (zA1 ?_); refine zA rfl (zA7 uz33 rfl rfl (hs.cellAt 4 rfl rfl)) ?_; refine zA rfl (zA2 (v := .string _) rfl) ?_; refine zAb rfl en190 (clHead_sl hE hst.2.2.1 ⟨by omega, by omega⟩ ht hs (by omega) (by omega) hq) ?_; clear hs; rintro _ w ⟨rfl, hs⟩; refine zA rfl (zA2 (v := .tuple _) rfl) ?_; refine zA rfl (zAa (v := .int .i64 _) rfl rfl) ?_; refine zA rfl (zAa (v := .int .u32 _) rfl rfl) ?_; refine zA rfl (zAa (v := zAh ad _) rfl rfl) ?_; refine zA rfl (zA0 (v := .int .i64 _) rfl) ?_; refine zA rfl (zA0 (v := .int .u32 _) rfl) ?_; refine zA rfl (zA0 (v := zAh ad _) rfl) ?_; refine zA6 ?_; refine zA3 ?_; refine zAo ?_
    refine zA3 (zA1 ?_); refine zA rfl (zA2 (v := zAh ad _) rfl) ?_; refine zA rfl (zA7 zCe rfl rfl (hE.cellW hs 111 (by decide) rfl)) ?_; refine zA rfl (zEq (hE.atW hs) hy m111 (c := y) (d := 111) rfl rfl) ?_; refine zA rfl (zA0 (v := .bool _) rfl) ?_; refine zA6 ?_; refine zB rfl ?_ ?_
    ·
     intro h42; have g42 := of_decide_eq_true h42; refine zA3 (zA1 ?_); refine zA rfl (zA2 (v := zAh ad _) rfl) ?_; refine zA rfl (zA0 (v := zAh ad _) rfl) ?_; refine zA6 ?_; refine zAc ?_; refine zBd (v := zAh ad _) rfl rfl ?_; have hc : lost = true ∧ x = 107 := ⟨h22, g29⟩; simp only [if_pos hc, if_pos g42]; exact ⟨_, rfl, by rw [g42], by simpa [Int.add_assoc] using hs.arr [0, 1] 5 (by decide)⟩
    ·
     intro h42; have g42 := of_decide_eq_false h42; refine zA3 (zA1 ?_); refine zA rfl (zA2 (v := zAh ad _) rfl) ?_; refine zA rfl (zDe (ad := ad) rfl) ?_; refine zA rfl (zA2 (v := .bool _) rfl) ?_; refine zB0 (t := _) (d := 47) rfl ?_ ?_
     ·
      intro h46; have g46 := of_decide_eq_true h46; refine zAi rfl rfl h46 ?_; refine zA rfl (zA2 (v := .int .i64 _) rfl) ?_; refine zAi rfl rfl h46 ?_; refine zA rfl (zA2 (v := .int .i64 _) rfl) ?_; refine zAi rfl rfl h46 ?_; refine zA rfl (zBo rfl rfl) ?_; refine zA rfl (zAk (v := .bool _) rfl h46 rfl) ?_; refine zA rfl (zA2 (v := .bool _) rfl) ?_; refine zB0 (t := _) (d := 52) rfl ?_ ?_
      ·
       intro h50; have g50 := of_decide_eq_true h50; refine zAi rfl rfl h50 ?_; refine zA rfl (zA2 (v := .int .u32 _) rfl) ?_; refine zAi rfl rfl h50 ?_; refine zA rfl (zA2 (v := .int .u32 _) rfl) ?_; refine zAi rfl rfl h50 ?_; refine zA rfl (zBo rfl rfl) ?_; refine zA rfl (zAk (v := .bool _) rfl h50 rfl) ?_; refine zA rfl (zA0 (v := .bool _) rfl) ?_; refine zA6 ?_; refine zB rfl ?_ ?_
       ·
        intro h55; have g55 := of_decide_eq_true h55; refine zA3 (zA1 ?_); refine zA rfl (zA0 (v := .nilIface) rfl) ?_; refine zA6 ?_; refine zAc ?_; refine zBd (v := .nilIface) rfl rfl ?_; have hc : lost = true ∧ x = 107 := ⟨h22, g29⟩; simp only [if_pos hc, if_neg g42]; rw [if_pos (by omega)]; exact ⟨_, rfl, by rw [zAz], by simpa [Int.add_assoc] using hs.arr [0, 1] 5 (by decide)⟩
       ·
        intro h55; have g55 := of_decide_eq_false h55; refine zAd ?_; refine zA3 (zA1 ?_); refine zA rfl (zA2 (v := zAh ad _) rfl) ?_; refine zA rfl (zA0 (v := zAh ad _) rfl) ?_; refine zA6 ?_; refine zAc ?_; refine zBd (v := zAh ad _) rfl rfl ?_; have hc : lost = true ∧ x = 107 := ⟨h22, g29⟩; simp only [if_pos hc, if_neg g42]; rw [if_neg (by omega)]; exact ⟨_, rfl, by rw [g29], by simpa [Int.add_assoc] using hs.arr [0, 1] 5 (by decide)⟩
      ·
       intro h50; have g50 := of_decide_eq_false h50; refine zA9 rfl rfl rfl h50 ?_; refine zA9 rfl rfl rfl h50 ?_; refine zA9 rfl rfl rfl h50 ?_; refine zA rfl (zAg (v := .bool _) rfl h50 rfl) ?_; refine zA rfl (zA0 (v := .bool _) rfl) ?_; refine zA6 ?_; refine zB4 rfl rfl ?_; refine zAd ?_; refine zA3 (zA1 ?_); refine zA rfl (zA2 (v := zAh ad _) rfl) ?_; refine zA rfl (zA0 (v := zAh ad _) rfl) ?_; refine zA6 ?_; refine zAc ?_; refine zBd (v := zAh ad _) rfl rfl ?_; have hc : lost = true ∧ x = 107 := ⟨h22, g29⟩; simp only [if_pos hc, if_neg g42]; rw [if_neg (by omega)]; exact ⟨_, rfl, by rw [g29], by simpa [Int.add_assoc] using hs.arr [0, 1] 5 (by decide)⟩
     ·
      intro h46; have g46 := of_decide_eq_false h46; refine zA9 rfl rfl rfl h46 ?_; refine zA9 rfl rfl rfl h46 ?_; refine zA9 rfl rfl rfl h46 ?_; refine zA rfl (zAg (v := .bool _) rfl h46 rfl) ?_; refine zA rfl (zA2 (v := .bool _) rfl) ?_; refine zA9 rfl rfl rfl rfl ?_; refine zA9 rfl rfl rfl rfl ?_; refine zA9 rfl rfl rfl rfl ?_; refine zA rfl (zAg (v := .bool _) rfl rfl rfl) ?_; refine zA rfl (zA0 (v := .bool _) rfl) ?_; refine zA6 ?_; refine zB4 rfl rfl ?_; refine zAd ?_; refine zA3 (zA1 ?_); refine zA rfl (zA2 (v := zAh ad _) rfl) ?_; refine zA rfl (zA0 (v := zAh ad _) rfl) ?_; refine zA6 ?_; refine zAc ?_; refine zBd (v := zAh ad _) rfl rfl ?_
      have hc : lost = true ∧ x = 107 := ⟨h22, g29⟩; simp only [if_pos hc, if_neg g42]; rw [if_neg (by omega)]; exact ⟨_, rfl, by rw [g29], by simpa [Int.add_assoc] using hs.arr [0, 1] 5 (by decide)⟩
end
section
open Go.RowKit
attribute [local irreducible] zAh
variable {g w : World} {L M : List HP} {ad : Nat → Addr} {p : Nat} {st : St}
def nX : ByteArray := ⟨#[120]⟩
def nY : ByteArray := ⟨#[121]⟩
def oneSt (n : ByteArray) (l : List UInt8) (k : Nat) : St := { objs := [(n, l)], ups := [], ids := 0, script := [], calls := k, failed := 0 }
end
section
end
section
open Go.RowKit
attribute [local irreducible] zAh
variable {g w : World} {L M : List HP} {ad : Nat → Addr} {p q : Nat} {st : St}
theorem clComplete_x (hE : ErrG ad g) (hsm : st.small) {t : Nat} {a : Int} (ha : 0 ≤ a ∧ a < 900000000000) (ht : t ≤ 8) (hs : Mem g w (zBf q p t a :: zB8 p st :: M)) (hcl : st.calls + 16 < 4611686018427387904) (hfl : st.failed + 16 < 4611686018427387904)
    {id k size sum : Int} {nm : ByteArray} {lost l2 : Bool} {x y n m : Nat} {st2 st3 : St} {i j : Int} (hk : zBg (fun s => s.run (St.complete1 id k)) t st = (lost, x, n, st2)) (hq : zBg (zBw nm) t (st2, 0, 0) = (l2, y, m, st3, i, j))
    {r N : Nat} {st4 : St} (hr : (if lost = true ∧ x = 107 then (if y = 111 then 111 else if y = 0 ∧ i = size ∧ j = sum then 0 else 107) else x) = r) (hN : (if lost = true ∧ x = 107 then n + m else n) = N) (h4 : (if lost = true ∧ x = 107 then st3 else st2) = st4) :
    Calls Tryz.prog 148 #[.pointer (some ⟨q, 0, none⟩), .int .i64 id, .int .i64 k, .string nm, .int .i64 size, .int .u32 sum] w
      (Ret fun v w' => v = zAh ad r ∧ Mem g w' (zBf q p t (a + (N : Nat)) :: zB8 p st4 :: M)) := by subst hr hN h4; exact clComplete_sl hE hsm ha ht hs hcl hfl hk hq
def tw (o : List (ByteArray × List UInt8)) (u : List (Int × Up)) (s : List Int) (c f : Nat) : St := { objs := o, ups := u, ids := 1, script := s, calls := c, failed := f }
def twU (b : List UInt8) : List (Int × Up) := [(1, ⟨nY, [(0, b)]⟩)]
end
section
open Go.RowKit
attribute [local irreducible] zAh
variable {g w : World} {L : List HP} {ad : Nat → Addr}
theorem partsN_lt {size e k : Nat} (h1 : 1 ≤ e) (hk : k < zB2 size e) : k * e < size := by
  unfold zB2 at hk
  have h2 : (size + e - 1) / e * e ≤ size + e - 1 := Nat.div_mul_le_self _ _; have h3 : (k + 1) * e ≤ (size + e - 1) / e * e := Nat.mul_le_mul_right e (by omega); rw [Nat.succ_mul] at h3
  omega
theorem partsN_end {size e : Nat} (h1 : 1 ≤ e) : size ≤ zB2 size e * e := by
  unfold zB2
  have h2 := Nat.div_add_mod (size + e - 1) e; have h3 := Nat.mod_lt (size + e - 1) (show e > 0 by omega); rw [Nat.mul_comm] at h2
  omega
end
section
open Go.RowKit
attribute [local irreducible] zAh
variable {g w : World} {L M : List HP} {ad : Nat → Addr} {p q : Nat} {st : St}
structure Fair (size each parts : Nat) : Prop where
  h1 : 1 ≤ each
  h2 : each ≤ 1048576
  h3 : size ≤ 1048576
  hp : parts = zB2 size each
  hm : parts ≤ 256
theorem fair_sl (hs : Mem g w L) {name : ByteArray} {size sum each parts : Nat} (h : Fair size each parts) : Calls Tryz.prog 144 #[.agg (planC name size sum each parts).toArray] w (Ret fun v w' => v = .bool true ∧ Mem g w' L) := hs.calls (fair_any h.h1 h.h2 h.h3 h.hp h.hm)
theorem step_start (hE : ErrG ad g) {t : Nat} {a : Int} (ha : 0 ≤ a ∧ a < 900000000000) (ht : t ≤ 8) (hs : Mem g w (zBf q p t a :: zB8 p st :: M)) (hid : st.ids + 8 < 4611686018427387904) (hcl : st.calls + 8 < 4611686018427387904) (hfl : st.failed + 8 < 4611686018427387904)
    {name : ByteArray} {size sum each parts : Nat} (h : Fair size each parts) {done : Int} {ba : Option Addr} {c : Nat} (hd : 0 ≤ done ∧ done ≤ parts)
    {lost : Bool} {x n : Nat} {st2 : St} {i : Int} (hk : zBg (zBi name) t (st, 0) = (lost, x, n, st2, i)) :
    Calls Tryz.prog 99 #[.pointer (some ⟨q, 0, none⟩), .agg (planC name size sum each parts).toArray, .slice ba size c, .int .i64 0, .int .i64 done] w
      (Ret fun v w' => v = .tuple #[.int .i64 (if x = 0 then i else 0), .int .i64 (if x = 0 then 0 else done), .bool false, zAh ad x] ∧ Mem g w' (zBf q p t (a + (n : Nat)) :: zB8 p st2 :: M)) := by
  refine zAf Tryz.func99 rfl rfl ?_
  skip
  refine zA3 (zA1 ?_); refine zBh (v := .agg _) hs rfl rfl ?_; clear hs; intro b6 w hs
  try simp only [zzs, zzz] at hs
  refine zA rfl (zA0 (v := .int .i64 _) rfl) ?_; refine zA rfl (zA0 (v := .int .i64 _) rfl) ?_; refine zA rfl (zA0 (v := .bool _) rfl) ?_; refine zA rfl (zA0 (v := .nilIface) rfl) ?_; refine zA6 ?_; refine zA3 ?_; refine zA3 (zA1 ?_); refine zA rfl (zBa hs 0 rfl zE zG3 rfl) ?_; refine zAb rfl en144 (fair_sl hs h) ?_; clear hs; rintro _ w ⟨rfl, hs⟩; refine zA rfl (zBt rfl) ?_; refine zA rfl (zA2 (v := .bool _) rfl) ?_; refine zAi rfl rfl (zBj (rfl)) ?_; refine zA rfl (zA2 (v := .slice _ _ _) rfl) ?_; refine zAi rfl rfl (zBj (rfl)) ?_; refine zA rfl (zAt zCk rfl) ?_; refine zAi rfl rfl (zBj (rfl)) ?_; refine zA rfl (zA4 (o' := 1) zE rfl sz3 rfl rfl rfl) ?_; refine zAi rfl rfl (zBj (rfl)) ?_
  refine zA rfl (zA7 uz3 rfl rfl (hs.cellAt 0 rfl rfl)) ?_; refine zAi rfl rfl (zBj (rfl)) ?_; refine zA rfl (zCf rfl rfl) ?_; refine zA rfl (zAg (v := .bool _) rfl (zBj (rfl)) rfl) ?_; refine zA rfl (zA2 (v := .bool _) rfl) ?_; refine zAi rfl rfl (zBj (decide_eq_true rfl)) ?_; refine zA rfl (zA2 (v := .int .i64 _) rfl) ?_; refine zAi rfl rfl (zBj (decide_eq_true rfl)) ?_; refine zA rfl (zB9 rfl rfl) ?_; refine zA rfl (zAg (v := .bool _) rfl (zBj (decide_eq_true rfl)) rfl) ?_; refine zA rfl (zA2 (v := .bool _) rfl) ?_; refine zAi rfl rfl (decide_eq_false (by omega)) ?_; refine zA rfl (zA2 (v := .int .i64 _) rfl) ?_; refine zAi rfl rfl (decide_eq_false (by omega)) ?_
  refine zA rfl (zA4 (o' := 4) zE rfl sz3 rfl rfl rfl) ?_; refine zAi rfl rfl (decide_eq_false (by omega)) ?_; refine zA rfl (zA7 uz3 rfl rfl (hs.cellAt 0 rfl rfl)) ?_; refine zAi rfl rfl (decide_eq_false (by omega)) ?_; refine zA rfl (zBl rfl rfl) ?_; refine zA rfl (zAg (v := .bool _) rfl (decide_eq_false (by omega)) rfl) ?_; refine zA6 ?_; refine zB4 rfl (decide_eq_false (by omega)) ?_; refine zAd ?_; refine zA3 ?_; refine zA3 (zA1 ?_); refine zA rfl (zA2 (v := .int .i64 _) rfl) ?_; refine zA rfl (zBo rfl rfl) ?_; refine zA6 ?_; refine zB6 rfl (decide_eq_true rfl) ?_; refine zA3 (zA1 ?_); refine zA rfl (zA2 (v := .pointer (some _)) rfl) ?_
  refine zA rfl (zA4 (o' := 0) zE rfl sz9 rfl rfl rfl) ?_; refine zA rfl (zA7 uz9 rfl rfl (hs.cellAt 0 rfl rfl)) ?_; refine zAb rfl en145 (clStart_sl hE ⟨ha.1, by omega⟩ ht hs.tail hid hcl hfl hk) ?_; clear hs; rintro _ w ⟨rfl, hs⟩; refine zA rfl (zA2 (v := .tuple _) rfl) ?_; refine zA rfl (zAa (v := .int .i64 _) rfl rfl) ?_; refine zA rfl (zAa (v := zAh ad _) rfl rfl) ?_; refine zA rfl (zA0 (v := .int .i64 _) rfl) ?_; refine zA rfl (zA0 (v := zAh ad _) rfl) ?_; refine zA6 ?_; refine zA3 ?_; refine zA3 (zA1 ?_); refine zA rfl (zA2 (v := zAh ad _) rfl) ?_; refine zA rfl (zAx (ad := ad) rfl) ?_; refine zA6 ?_; refine zB rfl ?_ ?_
  ·
   intro h53; have g53 := zEt h53; refine zA3 (zA1 ?_); refine zA rfl (zA2 (v := .int .i64 _) rfl) ?_; refine zA rfl (zA2 (v := .int .i64 _) rfl) ?_; refine zA rfl (zA2 (v := zAh ad _) rfl) ?_; refine zA rfl (zA0 (v := .int .i64 _) rfl) ?_; refine zA rfl (zA0 (v := .int .i64 _) rfl) ?_; refine zA rfl (zA0 (v := .bool _) rfl) ?_; refine zA rfl (zA0 (v := zAh ad _) rfl) ?_; refine zA6 ?_; refine zAc ?_; refine res4 (v := .int .i64 _) (v2 := .int .i64 _) (v3 := .bool _) (v4 := zAh ad _) rfl rfl rfl rfl rfl ?_; exact ⟨_, rfl, by rw [if_neg g53, if_neg g53], hs⟩
  ·
   intro h53; have g53 := zEs h53; refine zAd ?_; refine zA3 (zA1 ?_); refine zA rfl (zA2 (v := .int .i64 _) rfl) ?_; refine zA rfl (zA0 (v := .int .i64 _) rfl) ?_; refine zA rfl (zA0 (v := .int .i64 _) rfl) ?_; refine zA rfl (zA0 (v := .bool _) rfl) ?_; refine zA rfl (zA0 (v := .nilIface) rfl) ?_; refine zA6 ?_; refine zAc ?_; refine res4 (v := .int .i64 _) (v2 := .int .i64 _) (v3 := .bool _) (v4 := .nilIface) rfl rfl rfl rfl rfl ?_; exact ⟨_, rfl, by rw [if_pos g53, if_pos g53, g53, zAz], hs⟩
theorem step_part (hE : ErrG ad g) {t : Nat} {a : Int} (ha : 0 ≤ a ∧ a < 900000000000) (ht : t ≤ 8) (hs : Mem g w (zBf q p t a :: zB8 p st :: M)) (hcl : st.calls + 8 < 4611686018427387904) (hfl : st.failed + 8 < 4611686018427387904)
    {name : ByteArray} {sum each parts : Nat} {l : List UInt8} (h : Fair l.length each parts) {id : Int} (hid : id ≠ 0) {k : Nat} (hd : k < parts) {ba : Option Addr} {c : Nat} (hr : Rd g M (.slice ba l.length c) (zAm l))
    {lost : Bool} {x n : Nat} {st2 : St} (hk : zBg (fun s => s.run (St.part1 id k ((l.take (min ((k + 1) * each) l.length)).drop (k * each)))) t st = (lost, x, n, st2)) :
    Calls Tryz.prog 99 #[.pointer (some ⟨q, 0, none⟩), .agg (planC name l.length sum each parts).toArray, .slice ba l.length c, .int .i64 id, .int .i64 k] w
      (Ret fun v w' => v = .tuple #[.int .i64 (if x = 107 then 0 else id), .int .i64 (if x = 107 then 0 else if x = 0 then k + 1 else k), .bool false, zAh ad (if x = 107 then 0 else x)] ∧ Mem g w' (zBf q p t (a + (n : Nat)) :: zB8 p st2 :: M)) := by
  have hx := again_code (good := St.part1 id k ((l.take (min ((k + 1) * each) l.length)).drop (k * each))) (part1_code id k _) t st; rw [hk] at hx; replace hx : x = 0 ∨ x ∈ zC1 := hx; have hke := partsN_lt (size := l.length) (e := each) h.h1 (show k < zB2 l.length each by rw [← h.hp]; exact hd); have hkm : (k + 1) * each = k * each + each := Nat.succ_mul _ _; have hh1 := h.h1; have hpm := h.hm; have hop := ((hr.cons.cons : Rd g (zBf q p t a :: zB8 p st :: M) _ _).seq hs).open; refine zAf Tryz.func99 rfl rfl ?_
  skip
  refine zA3 (zA1 ?_); refine zBh (v := .agg _) hs rfl rfl ?_; clear hs; intro b6 w hs
  try simp only [zzs, zzz] at hs
  refine zA rfl (zA0 (v := .int .i64 _) rfl) ?_; refine zA rfl (zA0 (v := .int .i64 _) rfl) ?_; refine zA rfl (zA0 (v := .bool _) rfl) ?_; refine zA rfl (zA0 (v := .nilIface) rfl) ?_; refine zA6 ?_; refine zA3 ?_; refine zA3 (zA1 ?_); refine zA rfl (zBa hs 0 rfl zE zG3 rfl) ?_; refine zAb rfl en144 (fair_sl hs h) ?_; clear hs; rintro _ w ⟨rfl, hs⟩; refine zA rfl (zBt rfl) ?_; refine zA rfl (zA2 (v := .bool _) rfl) ?_; refine zAi rfl rfl (zBj (rfl)) ?_; refine zA rfl (zA2 (v := .slice _ _ _) rfl) ?_; refine zAi rfl rfl (zBj (rfl)) ?_; refine zA rfl (zAt zCk rfl) ?_; refine zAi rfl rfl (zBj (rfl)) ?_; refine zA rfl (zA4 (o' := 1) zE rfl sz3 rfl rfl rfl) ?_; refine zAi rfl rfl (zBj (rfl)) ?_
  refine zA rfl (zA7 uz3 rfl rfl (hs.cellAt 0 rfl rfl)) ?_; refine zAi rfl rfl (zBj (rfl)) ?_; refine zA rfl (zCf rfl rfl) ?_; refine zA rfl (zAg (v := .bool _) rfl (zBj (rfl)) rfl) ?_; refine zA rfl (zA2 (v := .bool _) rfl) ?_; refine zAi rfl rfl (zBj (decide_eq_true rfl)) ?_; refine zA rfl (zA2 (v := .int .i64 _) rfl) ?_; refine zAi rfl rfl (zBj (decide_eq_true rfl)) ?_; refine zA rfl (zB9 rfl rfl) ?_; refine zA rfl (zAg (v := .bool _) rfl (zBj (decide_eq_true rfl)) rfl) ?_; refine zA rfl (zA2 (v := .bool _) rfl) ?_; refine zAi rfl rfl (decide_eq_false (by omega)) ?_; refine zA rfl (zA2 (v := .int .i64 _) rfl) ?_; refine zAi rfl rfl (decide_eq_false (by omega)) ?_
  refine zA rfl (zA4 (o' := 4) zE rfl sz3 rfl rfl rfl) ?_; refine zAi rfl rfl (decide_eq_false (by omega)) ?_; refine zA rfl (zA7 uz3 rfl rfl (hs.cellAt 0 rfl rfl)) ?_; refine zAi rfl rfl (decide_eq_false (by omega)) ?_; refine zA rfl (zBl rfl rfl) ?_; refine zA rfl (zAg (v := .bool _) rfl (decide_eq_false (by omega)) rfl) ?_; refine zA6 ?_; refine zB4 rfl (decide_eq_false (by omega)) ?_; refine zAd ?_; refine zA3 ?_; refine zA3 (zA1 ?_); refine zA rfl (zA2 (v := .int .i64 _) rfl) ?_; refine zA rfl (zBo rfl rfl) ?_; refine zA6 ?_; refine zB4 rfl (decide_eq_false hid) ?_; refine zAd ?_; refine zA3 (zA1 ?_); refine zA rfl (zA0 (v := .nilIface) rfl) ?_; refine zA6 (zA3 (zA1 ?_))
  refine zA rfl (zBa hs 0 rfl zE zG3 rfl) ?_; refine zA rfl (zA2 (v := .int .i64 _) rfl) ?_; refine zAb rfl en146 (range_sl hs h.h1 h.h2 h.h3 h.hp h.hm) ?_; clear hs; rintro _ w ⟨f1, t1, hft, rfl, hs⟩; obtain ⟨rfl, rfl⟩ := hft (by omega) (by omega); refine zA rfl (zA2 (v := .tuple _) rfl) ?_; refine zA rfl (zAa (v := .int .i64 _) rfl rfl) ?_; refine zA rfl (zAa (v := .int .i64 _) rfl rfl) ?_; refine zA rfl (zAa (v := .bool _) rfl rfl) ?_; refine zA rfl (zA0 (v := .int .i64 _) rfl) ?_; refine zA rfl (zA0 (v := .int .i64 _) rfl) ?_; refine zA rfl (zA0 (v := .bool _) rfl) ?_; refine zA6 ?_; refine zA3 ?_; refine zA3 (zA1 ?_); refine zA rfl (zA2 (v := .bool _) rfl) ?_; refine zA6 ?_
  refine zB6 rfl (decide_eq_true ⟨by omega, by omega⟩) ?_; refine zA1 ?_; refine zA rfl (zA2 (v := .pointer (some _)) rfl) ?_; refine zA rfl (zA2 (v := .int .i64 _) rfl) ?_; refine zA rfl (zA2 (v := .int .i64 _) rfl) ?_; refine zA rfl (zA2 (v := .slice _ _ _) rfl) ?_; refine zA rfl (zA2 (v := .int .i64 _) rfl) ?_; refine zA rfl (zA2 (v := .int .i64 _) rfl) ?_; refine zA rfl (run_slice zCk sz5 rfl rfl rfl (lo := k * each) (hi := min ((k + 1) * each) l.length) rfl rfl (by omega) (by have := hop; omega)) ?_
  refine zAb rfl en147 (clPart_sl (b := (l.take (min ((k + 1) * each) l.length)).drop (k * each)) hE ⟨ha.1, by omega⟩ ht hs.tail hcl hfl (hr.subB (by omega) (by omega)) (by simp; have := h.h3; omega) hk) ?_; clear hs; rintro _ w ⟨rfl, hs⟩; refine zA rfl (zA0 (v := zAh ad _) rfl) ?_; refine zA6 ?_; refine zA3 ?_; refine zAo ?_; refine zA3 (zA1 ?_); refine zA rfl (zA2 (v := zAh ad _) rfl) ?_; refine zA rfl (zA7 zCe rfl rfl (hE.cellW hs 107 (by decide) rfl)) ?_; refine zA rfl (zEq (hE.atW hs) hx m107 (c := x) (d := 107) rfl rfl) ?_; refine zA rfl (zA0 (v := .bool _) rfl) ?_; refine zA6 ?_; refine zB rfl ?_ ?_
  ·
   intro h88; have g88 := of_decide_eq_true h88; refine zA3 (zA1 ?_); refine zA rfl (zA0 (v := .int .i64 _) rfl) ?_; refine zA rfl (zA0 (v := .int .i64 _) rfl) ?_; refine zA rfl (zA0 (v := .bool _) rfl) ?_; refine zA rfl (zA0 (v := .nilIface) rfl) ?_; refine zA6 ?_; refine zAc ?_; refine res4 (v := .int .i64 _) (v2 := .int .i64 _) (v3 := .bool _) (v4 := .nilIface) rfl rfl rfl rfl rfl ?_; exact ⟨_, rfl, by simp only [if_pos g88, zAz], hs⟩
  ·
   intro h88; have g88 := of_decide_eq_false h88; refine zA3 (zA1 ?_); refine zA rfl (zA2 (v := zAh ad _) rfl) ?_; refine zA rfl (zAx (ad := ad) rfl) ?_; refine zA rfl (zA0 (v := .bool _) rfl) ?_; refine zA6 ?_; refine zB rfl ?_ ?_
   ·
    intro h91; have g91 := zEt h91; refine zA3 (zA1 ?_); refine zA rfl (zA2 (v := .int .i64 _) rfl) ?_; refine zA rfl (zA2 (v := .int .i64 _) rfl) ?_; refine zA rfl (zA2 (v := zAh ad _) rfl) ?_; refine zA rfl (zA0 (v := .int .i64 _) rfl) ?_; refine zA rfl (zA0 (v := .int .i64 _) rfl) ?_; refine zA rfl (zA0 (v := .bool _) rfl) ?_; refine zA rfl (zA0 (v := zAh ad _) rfl) ?_; refine zA6 ?_; refine zAc ?_; refine res4 (v := .int .i64 _) (v2 := .int .i64 _) (v3 := .bool _) (v4 := zAh ad _) rfl rfl rfl rfl rfl ?_; exact ⟨_, rfl, by simp only [if_neg g88, if_neg g91], hs⟩
   ·
    intro h91; have g91 := zEs h91; refine zA3 (zA1 ?_); refine zA rfl (zA2 (v := .bool _) rfl) ?_; refine zA rfl (zA0 (v := .bool _) rfl) ?_; refine zA6 ?_; refine zB6 rfl (decide_eq_true ⟨by omega, by omega⟩) ?_; refine zA3 (zA1 ?_); refine zA rfl (zA2 (v := .int .i64 _) rfl) ?_; refine zA rfl (zA2 (v := .int .i64 _) rfl) ?_; refine zA rfl (zAu rfl rfl rfl (inI (by omega) (by omega))) ?_; refine zA rfl (zA0 (v := .int .i64 _) rfl) ?_; refine zA rfl (zA0 (v := .int .i64 _) rfl) ?_; refine zA rfl (zA0 (v := .bool _) rfl) ?_; refine zA rfl (zA0 (v := .nilIface) rfl) ?_; refine zA6 ?_; refine zAc ?_
    refine res4 (v := .int .i64 _) (v2 := .int .i64 _) (v3 := .bool _) (v4 := .nilIface) rfl rfl rfl rfl rfl ?_; exact ⟨_, rfl, by simp only [if_neg g88, if_pos g91]; rw [g91, zAz], hs⟩
theorem step_complete (hE : ErrG ad g) (hsm : st.small) {t : Nat} {a : Int} (ha : 0 ≤ a ∧ a < 900000000000) (ht : t ≤ 8) (hs : Mem g w (zBf q p t a :: zB8 p st :: M)) (hcl : st.calls + 16 < 4611686018427387904) (hfl : st.failed + 16 < 4611686018427387904)
    {name : ByteArray} {size sum each parts : Nat} (h : Fair size each parts) {id : Int} (hid : id ≠ 0) {ba : Option Addr} {c : Nat}
    {lost l2 : Bool} {x y n m : Nat} {st2 st3 : St} {i j : Int} (hk : zBg (fun s => s.run (St.complete1 id parts)) t st = (lost, x, n, st2)) (hq : zBg (zBw name) t (st2, 0, 0) = (l2, y, m, st3, i, j))
    {r N : Nat} {st4 : St} (hr : (if lost = true ∧ x = 107 then (if y = 111 then 111 else if y = 0 ∧ i = size ∧ j = sum then 0 else 107) else x) = r) (hN : (if lost = true ∧ x = 107 then n + m else n) = N) (h4 : (if lost = true ∧ x = 107 then st3 else st2) = st4) :
    Calls Tryz.prog 99 #[.pointer (some ⟨q, 0, none⟩), .agg (planC name size sum each parts).toArray, .slice ba size c, .int .i64 id, .int .i64 (parts : Nat)] w
      (Ret fun v w' => v = .tuple #[.int .i64 (if r = 107 then 0 else id), .int .i64 (if r = 107 then 0 else parts), .bool (decide (r = 0)), zAh ad (if r = 107 then 0 else r)] ∧ Mem g w' (zBf q p t (a + (N : Nat)) :: zB8 p st4 :: M)) := by
  have hx := again_code (good := St.complete1 id parts) (zFq id parts) t st; rw [hk] at hx; replace hx : x = 0 ∨ x ∈ zC1 := hx
  have hrc : r = 0 ∨ r ∈ zC1 := by
    rw [← hr]
    split
    · split
      · exact .inr m111
      · split
        · exact .inl rfl
        · exact .inr m107
    · exact hx
  refine zAf Tryz.func99 rfl rfl ?_
  skip
  refine zA3 (zA1 ?_); refine zBh (v := .agg _) hs rfl rfl ?_; clear hs; intro b6 w hs
  try simp only [zzs, zzz] at hs
  refine zA rfl (zA0 (v := .int .i64 _) rfl) ?_; refine zA rfl (zA0 (v := .int .i64 _) rfl) ?_; refine zA rfl (zA0 (v := .bool _) rfl) ?_; refine zA rfl (zA0 (v := .nilIface) rfl) ?_; refine zA6 ?_; refine zA3 ?_; refine zA3 (zA1 ?_); refine zA rfl (zBa hs 0 rfl zE zG3 rfl) ?_; refine zAb rfl en144 (fair_sl hs h) ?_; clear hs; rintro _ w ⟨rfl, hs⟩; refine zA rfl (zBt rfl) ?_; refine zA rfl (zA2 (v := .bool _) rfl) ?_; refine zAi rfl rfl (zBj (rfl)) ?_; refine zA rfl (zA2 (v := .slice _ _ _) rfl) ?_; refine zAi rfl rfl (zBj (rfl)) ?_; refine zA rfl (zAt zCk rfl) ?_; refine zAi rfl rfl (zBj (rfl)) ?_; refine zA rfl (zA4 (o' := 1) zE rfl sz3 rfl rfl rfl) ?_; refine zAi rfl rfl (zBj (rfl)) ?_
  refine zA rfl (zA7 uz3 rfl rfl (hs.cellAt 0 rfl rfl)) ?_; refine zAi rfl rfl (zBj (rfl)) ?_; refine zA rfl (zCf rfl rfl) ?_; refine zA rfl (zAg (v := .bool _) rfl (zBj (rfl)) rfl) ?_; refine zA rfl (zA2 (v := .bool _) rfl) ?_; refine zAi rfl rfl (zBj (decide_eq_true rfl)) ?_; refine zA rfl (zA2 (v := .int .i64 _) rfl) ?_; refine zAi rfl rfl (zBj (decide_eq_true rfl)) ?_; refine zA rfl (zB9 rfl rfl) ?_; refine zA rfl (zAg (v := .bool _) rfl (zBj (decide_eq_true rfl)) rfl) ?_; refine zA rfl (zA2 (v := .bool _) rfl) ?_; refine zAi rfl rfl (decide_eq_false (by omega)) ?_; refine zA rfl (zA2 (v := .int .i64 _) rfl) ?_; refine zAi rfl rfl (decide_eq_false (by omega)) ?_
  refine zA rfl (zA4 (o' := 4) zE rfl sz3 rfl rfl rfl) ?_; refine zAi rfl rfl (decide_eq_false (by omega)) ?_; refine zA rfl (zA7 uz3 rfl rfl (hs.cellAt 0 rfl rfl)) ?_; refine zAi rfl rfl (decide_eq_false (by omega)) ?_; refine zA rfl (zBl rfl rfl) ?_; refine zA rfl (zAg (v := .bool _) rfl (decide_eq_false (by omega)) rfl) ?_; refine zA6 ?_; refine zB4 rfl (decide_eq_false (by omega)) ?_; refine zAd ?_; refine zA3 ?_; refine zA3 (zA1 ?_); refine zA rfl (zA2 (v := .int .i64 _) rfl) ?_; refine zA rfl (zBo rfl rfl) ?_; refine zA6 ?_; refine zB4 rfl (decide_eq_false hid) ?_; refine zAd ?_; refine zA3 (zA1 ?_); refine zA rfl (zA0 (v := .nilIface) rfl) ?_; refine zA6 (zA3 (zA1 ?_))
  refine zA rfl (zBa hs 0 rfl zE zG3 rfl) ?_; refine zA rfl (zA2 (v := .int .i64 _) rfl) ?_; refine zAb rfl en146 (range_sl hs h.h1 h.h2 h.h3 h.hp h.hm) ?_; clear hs; rintro _ w ⟨f1, t1, hft, rfl, hs⟩; refine zA rfl (zA2 (v := .tuple _) rfl) ?_; refine zA rfl (zAa (v := .int .i64 _) rfl rfl) ?_; refine zA rfl (zAa (v := .int .i64 _) rfl rfl) ?_; refine zA rfl (zAa (v := .bool _) rfl rfl) ?_; refine zA rfl (zA0 (v := .int .i64 _) rfl) ?_; refine zA rfl (zA0 (v := .int .i64 _) rfl) ?_; refine zA rfl (zA0 (v := .bool _) rfl) ?_; refine zA6 ?_; refine zA3 ?_; refine zA3 (zA1 ?_); refine zA rfl (zA2 (v := .bool _) rfl) ?_; refine zA6 ?_; refine zB4 rfl (decide_eq_false (by omega)) ?_
  refine zA1 ?_; refine zA rfl (zA2 (v := .pointer (some _)) rfl) ?_; refine zA rfl (zA2 (v := .int .i64 _) rfl) ?_; refine zA rfl (zA4 (o' := 4) zE rfl sz3 rfl rfl rfl) ?_; refine zA rfl (zA7 uz3 rfl rfl (hs.cellAt 0 rfl rfl)) ?_; refine zA rfl (zA4 (o' := 0) zE rfl sz9 rfl rfl rfl) ?_; refine zA rfl (zA7 uz9 rfl rfl (hs.cellAt 0 rfl rfl)) ?_; refine zA rfl (zA4 (o' := 1) zE rfl sz3 rfl rfl rfl) ?_; refine zA rfl (zA7 uz3 rfl rfl (hs.cellAt 0 rfl rfl)) ?_; refine zA rfl (zA4 (o' := 2) zE rfl sz64 rfl rfl rfl) ?_; refine zA rfl (zA7 uz64 rfl rfl (hs.cellAt 0 rfl rfl)) ?_; refine zAb rfl en148 (clComplete_x hE hsm ha ht hs.tail hcl hfl hk hq hr hN h4) ?_; clear hs; rintro _ w ⟨rfl, hs⟩
  refine zA rfl (zA0 (v := zAh ad _) rfl) ?_; refine zA6 ?_; refine zA3 ?_; refine zAo ?_; refine zA3 (zA1 ?_); refine zA rfl (zA2 (v := zAh ad _) rfl) ?_; refine zA rfl (zA7 zCe rfl rfl (hE.cellW hs 107 (by decide) rfl)) ?_; refine zA rfl (zEq (hE.atW hs) hrc m107 (c := r) (d := 107) rfl rfl) ?_; refine zA rfl (zA0 (v := .bool _) rfl) ?_; refine zA6 ?_; refine zB rfl ?_ ?_
  ·
   intro h88; have g88 := of_decide_eq_true h88; refine zA3 (zA1 ?_); refine zA rfl (zA0 (v := .int .i64 _) rfl) ?_; refine zA rfl (zA0 (v := .int .i64 _) rfl) ?_; refine zA rfl (zA0 (v := .bool _) rfl) ?_; refine zA rfl (zA0 (v := .nilIface) rfl) ?_; refine zA6 ?_; refine zAc ?_; refine res4 (v := .int .i64 _) (v2 := .int .i64 _) (v3 := .bool _) (v4 := .nilIface) rfl rfl rfl rfl rfl ?_; exact ⟨_, rfl, by simp only [if_pos g88, zAz]; rw [g88]; rfl, hs⟩
  ·
   intro h88; have g88 := of_decide_eq_false h88; refine zA3 (zA1 ?_); refine zA rfl (zA2 (v := zAh ad _) rfl) ?_; refine zA rfl (zAx (ad := ad) rfl) ?_; refine zA rfl (zA0 (v := .bool _) rfl) ?_; refine zA6 ?_; refine zB rfl ?_ ?_
   ·
    intro h91; have g91 := zEt h91; refine zA3 (zA1 ?_); refine zA rfl (zA2 (v := .int .i64 _) rfl) ?_; refine zA rfl (zA2 (v := .int .i64 _) rfl) ?_; refine zA rfl (zA2 (v := zAh ad _) rfl) ?_; refine zA rfl (zA0 (v := .int .i64 _) rfl) ?_; refine zA rfl (zA0 (v := .int .i64 _) rfl) ?_; refine zA rfl (zA0 (v := .bool _) rfl) ?_; refine zA rfl (zA0 (v := zAh ad _) rfl) ?_; refine zA6 ?_; refine zAc ?_; refine res4 (v := .int .i64 _) (v2 := .int .i64 _) (v3 := .bool _) (v4 := zAh ad _) rfl rfl rfl rfl rfl ?_; exact ⟨_, rfl, by simp only [if_neg g88]; rw [decide_eq_false g91], hs⟩
   ·
    intro h91; have g91 := zEs h91; refine zA3 (zA1 ?_); refine zA rfl (zA2 (v := .bool _) rfl) ?_; refine zA rfl (zA0 (v := .bool _) rfl) ?_; refine zA6 ?_; refine zB4 rfl (decide_eq_false (by omega)) ?_; refine zAd ?_; refine zA3 (zA1 ?_); refine zA rfl (zA2 (v := .int .i64 _) rfl) ?_; refine zA rfl (zA2 (v := .int .i64 _) rfl) ?_; refine zA rfl (zA0 (v := .int .i64 _) rfl) ?_; refine zA rfl (zA0 (v := .int .i64 _) rfl) ?_; refine zA rfl (zA0 (v := .bool _) rfl) ?_; refine zA rfl (zA0 (v := .nilIface) rfl) ?_; refine zA6 ?_; refine zAc ?_; refine res4 (v := .int .i64 _) (v2 := .int .i64 _) (v3 := .bool _) (v4 := .nilIface) rfl rfl rfl rfl rfl ?_
    exact ⟨_, rfl, by simp only [if_neg g88]; rw [decide_eq_true g91, g91, zAz], hs⟩
end
section
open Go.RowKit
attribute [local irreducible] zAh eV
variable {g w : World} {L M : List HP} {ad : Nat → Addr} {p u : Nat}
structure UpT where
  d : Nat
  l : Nat
  c : Nat
  m : Mf
  s1 : SA
  s2 : SA
  each : Nat
  xs : List (List UInt8 × SA)
  s3 : SA
  s4 : SA
def bC (x : List UInt8 × SA) : HP := own (.slice x.2.1 x.1.length x.2.2) (zAm x.1)
def bV (x : List UInt8 × SA) : Value := .slice x.2.1 x.1.length x.2.2
def zEi (each : Nat) (o : Ob) (b : List UInt8) : List Value := planC o.1 b.length (zBz 0 b : Nat) each (zB2 b.length each : Nat)
def zC9 (each : Nat) (os : List Ob) (xs : List (List UInt8 × SA)) : List (List Value) := (os.zip xs).map fun p => zEi each p.1 p.2.1
abbrev upL (t : UpT) (a : S4) (ov : Bool) : List Value := [.pointer (some ⟨t.d, 0, none⟩), .pointer (some ⟨t.l, 0, none⟩), .pointer (some ⟨t.c, 0, none⟩), .int .i64 t.m.id, .int .i64 t.m.base, .int .i64 t.m.fin, .int .i64 t.m.time, .slice t.s1.1 t.m.eps.length t.s1.2, .slice t.s2.1 t.m.obs.length t.s2.2, .slice t.s3.1 t.xs.length t.s3.2, .slice t.s4.1 t.xs.length t.s4.2, .int .i64 a.1, .int .i64 a.2.1, .int .i64 a.2.2.1, .int .i64 a.2.2.2, .bool ov]
abbrev upP (u : Nat) (t : UpT) (a : S4) (ov : Bool) : HP := cells u (upL t a ov) 106
abbrev upR (t : UpT) : List HP := [zEy 2 (.slice t.s1.1 t.m.eps.length t.s1.2) (t.m.eps.map prL), zEy 3 (.slice t.s2.1 t.m.obs.length t.s2.2) (t.m.obs.map obL), own (.slice t.s3.1 t.xs.length t.s3.2) (t.xs.map bV), zEy 5 (.slice t.s4.1 t.xs.length t.s4.2) (zC9 t.each t.m.obs t.xs), stars (t.xs.map bC)]
def UpC (u : Nat) (t : UpT) (a : S4) (ov : Bool) : HP := stars (upP u t a ov :: upR t)
theorem Mem.openUp {t : UpT} {a : S4} {ov : Bool} (hs : Mem g w (UpC u t a ov :: L)) : Mem g w (upP u t a ov :: zEy 2 (.slice t.s1.1 t.m.eps.length t.s1.2) (t.m.eps.map prL) :: zEy 3 (.slice t.s2.1 t.m.obs.length t.s2.2) (t.m.obs.map obL) :: own (.slice t.s3.1 t.xs.length t.s3.2) (t.xs.map bV) :: zEy 5 (.slice t.s4.1 t.xs.length t.s4.2) (zC9 t.each t.m.obs t.xs) :: Go.Proofs.YthejaanobeonnaaGreatDoor.stars (t.xs.map bC) :: L) := hs.unstars
theorem Mem.closeUp {t : UpT} {a : S4} {ov : Bool} (hs : Mem g w (upP u t a ov :: zEy 2 (.slice t.s1.1 t.m.eps.length t.s1.2) (t.m.eps.map prL) :: zEy 3 (.slice t.s2.1 t.m.obs.length t.s2.2) (t.m.obs.map obL) :: own (.slice t.s3.1 t.xs.length t.s3.2) (t.xs.map bV) :: zEy 5 (.slice t.s4.1 t.xs.length t.s4.2) (zC9 t.each t.m.obs t.xs) :: Go.Proofs.YthejaanobeonnaaGreatDoor.stars (t.xs.map bC) :: L)) : Mem g w (UpC u t a ov :: L) := Mem.stars (M := upP u t a ov :: upR t) hs
theorem Rd.blob {xs : List (List UInt8 × SA)} {x : List UInt8 × SA} (i : Nat) (hi : L[i]? = some (stars (xs.map bC))) {k : Nat} (hk : xs[k]? = some x) : Rd g L (.slice x.2.1 x.1.length x.2.2) (zAm x.1) := fun w hs => by
  have h1 := (hs.pick i hi).unstars; have hlt : k < xs.length := (List.getElem?_eq_some_iff.1 hk).1; exact (Rd.own (g := g) (L := xs.map bC ++ L.eraseIdx i) k (by rw [List.getElem?_append_left (by rw [List.length_map]; exact hlt), List.getElem?_map, hk]; rfl)).seq h1
theorem plansL_at {each k : Nat} {os : List Ob} {xs : List (List UInt8 × SA)} {o : Ob} {x : List UInt8 × SA} (h1 : os[k]? = some o) (h2 : xs[k]? = some x) : (zC9 each os xs)[k]? = some (zEi each o x.1) := by
  unfold zC9
  rw [List.getElem?_map, List.getElem?_zip_eq_some (z := (o, x)).2 ⟨h1, h2⟩]
  rfl
abbrev ucO (u : Nat) (t : UpT) (a : S4) (ov : Bool) (L : List HP) : List HP := upP u t a ov :: zEy 2 (.slice t.s1.1 t.m.eps.length t.s1.2) (t.m.eps.map prL) :: zEy 3 (.slice t.s2.1 t.m.obs.length t.s2.2) (t.m.obs.map obL) :: own (.slice t.s3.1 t.xs.length t.s3.2) (t.xs.map bV) :: zEy 5 (.slice t.s4.1 t.xs.length t.s4.2) (zC9 t.each t.m.obs t.xs) :: stars (t.xs.map bC) :: L
end
section
open Go.RowKit
attribute [local irreducible] zAh
variable {g w : World} {L M : List HP} {ad : Nat → Addr} {p q : Nat} {st : St}
def zDn (l : List UInt8) (e k : Nat) : List UInt8 := (l.take (min ((k + 1) * e) l.length)).drop (k * e)
def pts (l : List UInt8) (e k : Nat) : List (Int × List UInt8) := (List.range k).map fun (i : Nat) => (((i : Nat) : Int), zDn l e i)
theorem pts_succ (l : List UInt8) (e k : Nat) : pts l e (k + 1) = pts l e k ++ [((k : Int), zDn l e k)] := by simp [pts, List.range_succ]
theorem aget_app {κ α : Type} [DecidableEq κ] {l : List (κ × α)} {k : κ} {v : α} (h : zAw l k = none) : zAw (l ++ [(k, v)]) k = some v := by
  induction l with
  | nil => simp [zAw]
  | cons x l ih =>
    obtain ⟨a, b⟩ := x; simp only [zAw] at h; simp only [List.cons_append, zAw]
    split
    · rename_i e; rw [if_pos e] at h; cases h
    · rename_i e; rw [if_neg e] at h; exact ih h
theorem aget_app1 {κ α : Type} [DecidableEq κ] {l : List (κ × α)} {k k' : κ} {v v' : α} (h : zAw l k = some v) : zAw (l ++ [(k', v')]) k = some v := by
  induction l with
  | nil => simp [zAw] at h
  | cons x l ih =>
    obtain ⟨a, b⟩ := x; simp only [zAw] at h; simp only [List.cons_append, zAw]
    split
    · rename_i e; rw [if_pos e] at h; exact h
    · rename_i e; rw [if_neg e] at h; exact ih h
theorem aget_app2 {κ α : Type} [DecidableEq κ] {l : List (κ × α)} {k k' : κ} {v' : α} (h : zAw l k = none) (hk : k' ≠ k) : zAw (l ++ [(k', v')]) k = none := by
  induction l with
  | nil => simp [zAw, hk]
  | cons x l ih =>
    obtain ⟨a, b⟩ := x; simp only [zAw] at h; simp only [List.cons_append, zAw]
    split
    · rename_i e; rw [if_pos e] at h; cases h
    · rename_i e; rw [if_neg e] at h; exact ih h
theorem aput_app {κ α : Type} [DecidableEq κ] {l : List (κ × α)} {k : κ} {v : α} (h : zAw l k = none) : zBv l k v = l ++ [(k, v)] := by
  induction l with
  | nil => rfl
  | cons x l ih =>
    obtain ⟨a, b⟩ := x; simp only [zAw] at h; simp only [List.cons_append, zBv]
    split
    · rename_i e; rw [if_pos e] at h; cases h
    · rename_i e; rw [if_neg e] at h; rw [ih h]
theorem pts_none (l : List UInt8) (e : Nat) : ∀ (k i : Nat), k ≤ i → zAw (pts l e k) ((i : Nat) : Int) = none
  | 0, i, _ => rfl
  | k + 1, i, h => by rw [pts_succ]; exact aget_app2 (pts_none l e k i (by omega)) (by omega)
theorem pts_get (l : List UInt8) (e : Nat) : ∀ (k i : Nat), i < k → zAw (pts l e k) ((i : Nat) : Int) = some (zDn l e i)
  | k + 1, i, h => by
    rw [pts_succ]
    by_cases hi : i = k
    · subst hi; exact aget_app (pts_none l e i i (Nat.le_refl _))
    · exact aget_app1 (pts_get l e k i (by omega))
theorem pts_put (l : List UInt8) (e k : Nat) : zBv (pts l e k) ((k : Nat) : Int) (zDn l e k) = pts l e (k + 1) := by rw [pts_succ]; exact aput_app (pts_none l e k k (Nat.le_refl _))
theorem pts_put2 (l : List UInt8) (e k : Nat) : zBv (pts l e (k + 1)) ((k : Nat) : Int) (zDn l e k) = pts l e (k + 1) := zDd (pts_get l e (k + 1) k (by omega))
theorem pts_all (l : List UInt8) (e k : Nat) : haveAll (pts l e k) k = true := haveAll_iff.2 fun i hi => by rw [pts_get l e k i hi]; rfl
theorem take_drop_app {l : List UInt8} {a c : Nat} (h : a ≤ c) : l.take a ++ (l.take c).drop a = l.take c := by
  have : l.take a = (l.take c).take a := by rw [List.take_take, Nat.min_eq_left h]
  rw [this, List.take_append_drop]
theorem pts_out (l : List UInt8) {e : Nat} (h1 : 1 ≤ e) : ∀ k, k ≤ zB2 l.length e → ∀ K, k ≤ K → outK (pts l e K) k = l.take (min (k * e) l.length)
  | 0, _, K, _ => by simp [outK]
  | k + 1, h, K, hK => by
    have hke := partsN_lt (size := l.length) (e := e) h1 (show k < zB2 l.length e by omega); have hkm : (k + 1) * e = k * e + e := Nat.succ_mul _ _; rw [outK_succ (pts_get l e K k (by omega)), pts_out l h1 k (by omega) K (by omega), zDn, Nat.min_eq_left (by omega : k * e ≤ l.length)]; exact take_drop_app (by omega)
theorem pts_whole (l : List UInt8) {e : Nat} (h1 : 1 ≤ e) : outK (pts l e (zB2 l.length e)) (zB2 l.length e) = l := by
  rw [pts_out l h1 _ (Nat.le_refl _) _ (Nat.le_refl _), Nat.min_eq_right (partsN_end h1), List.take_length]
theorem pts_mem {l : List UInt8} {e k : Nat} {i : Int} {b : List UInt8} (h : (i, b) ∈ pts l e k) : b.length ≤ l.length := by
  simp only [pts, List.mem_map, Prod.mk.injEq] at h; obtain ⟨j, _, _, rfl⟩ := h; simp only [zDn, List.length_drop, List.length_take]
  omega
theorem zDk {n e : Nat} (h1 : 1 ≤ e) : zB2 n e ≤ n := by
  by_cases h : zB2 n e = 0
  · omega
  · have := partsN_lt (size := n) (e := e) h1 (show zB2 n e - 1 < zB2 n e by omega)
    have h2 : (zB2 n e - 1) * 1 ≤ (zB2 n e - 1) * e := Nat.mul_le_mul_left _ h1
    omega
theorem fairN {l : List UInt8} {e : Nat} (h1 : 1 ≤ e) (h2 : e ≤ 1000) (h3 : l.length ≤ 256) : Fair l.length e (zB2 l.length e) := ⟨h1, by omega, by omega, rfl, by have := zDk (n := l.length) h1; omega⟩
def nO : ByteArray := ⟨#[111]⟩
theorem nO_valid : zBq nO.data.toList = true := by decide +kernel
def upO (l : List UInt8) (e k : Nat) : List (Int × Up) := [(1, ⟨nO, pts l e k⟩)]
def plSt (l : List UInt8) (e : Nat) : Nat → St
  | 0 => St.empty
  | i + 1 => tw [] (upO l e i) [] (i + 1) 0
end
section
open Go.RowKit
section
variable {σ : Type} {step : σ → Nat × σ}
theorem again_ind (I : σ → Prop) (hI : ∀ s, I s → (step s).1 = 111 → I (step s).2) : ∀ (t : Nat) (s : σ), I s →
    ((zBg step t s).2.1 = 111 ∧ I (zBg step t s).2.2.2) ∨ ∃ s', I s' ∧ (step s').1 ≠ 111 ∧ (zBg step t s).2.1 = (step s').1 ∧ (zBg step t s).2.2.2 = (step s').2 ∧ ((zBg step t s).1 = true ∨ s' = s)
  | 0, s, h => .inl ⟨rfl, h⟩
  | t + 1, s, h => by
    by_cases h1 : (step s).1 = 111
    · simp only [zBg, if_pos h1]
      rcases again_ind I hI t _ (hI s h h1) with ⟨a, b⟩ | ⟨s', a, b, c, d, _⟩
      · exact .inl ⟨a, b⟩
      · exact .inr ⟨s', a, b, c, d, .inl trivial⟩
    · simp only [zBg, if_neg h1]
      exact .inr ⟨s, h, h1, rfl, rfl, .inr rfl⟩
theorem zEp (f : σ → Nat) (hf : ∀ s, f (step s).2 ≤ f s + 1) : ∀ (t : Nat) (s : σ), f (zBg step t s).2.2.2 ≤ f s + t
  | 0, s => Nat.le_refl _
  | t + 1, s => by
    have h1 := hf s; have h2 := zEp f hf t (step s).2; simp only [zBg]
    split <;> simp only <;> omega
theorem again_n : ∀ (t : Nat) (s : σ), (zBg step t s).2.2.1 ≤ t
  | 0, s => Nat.le_refl _
  | t + 1, s => by
    have h2 := again_n t (step s).2; simp only [zBg]
    split <;> simp only <;> omega
theorem again_less0 (f : σ → Nat) (hf : ∀ s, f (step s).2 ≤ f s - 1) : ∀ (t : Nat) (s : σ), f (zBg step t s).2.2.2 ≤ f s
  | 0, s => Nat.le_refl _
  | t + 1, s => by
    have h1 := hf s; have h2 := again_less0 f hf t (step s).2; simp only [zBg]
    split <;> simp only <;> omega
theorem again_less (f : σ → Nat) (hf : ∀ s, f (step s).2 ≤ f s - 1) (t : Nat) (s : σ) : f (zBg step (t + 1) s).2.2.2 ≤ f s - 1 := by
  have h1 := hf s; have h2 := again_less0 f hf t (step s).2; simp only [zBg]
  split <;> simp only <;> omega
theorem again_first {t : Nat} {s : σ} (h : (step s).1 ≠ 111) : zBg step (t + 1) s = (false, (step s).1, 1, (step s).2) := by simp only [zBg, if_neg h]
end
end
section
open Go.RowKit
structure PInv (l : List UInt8) (st : St) : Prop where
  small : st.small
  objs : st.objs = [] ∨ st.objs = [(nO, l)]
  nd : (zAl st.ups).Nodup
  rng : ∀ x ∈ zAl st.ups, 1 ≤ x ∧ x ≤ (st.ids : Nat)
  len : st.ups.length ≤ st.ids
theorem len_keys {κ α β : Type} {l : List (κ × α)} {m : List (κ × β)} (h : zAl l = zAl m) : l.length = m.length := by
  have := congrArg List.length h
  simpa [zAl] using this
variable {l : List UInt8} {st : St} {e k : Nat} {id : Int}
theorem PInv.begin (h : PInv l st) : PInv l st.begin := ⟨h.small, h.objs, h.nd, h.rng, h.len⟩
theorem PInv.empty (s : List Int) : PInv l { St.empty with script := s } := ⟨⟨fun _ _ h => by simp [St.empty] at h, fun _ _ h => by simp [St.empty] at h⟩, .inl rfl, by simp [St.empty, zAl], fun x hx => by simp [St.empty, zAl] at hx, by simp [St.empty]⟩
theorem start1_eq (st : St) : st.start1 nO = (0, ((st.ids + 1 : Nat) : Int), { st with ids := st.ids + 1, ups := zBv st.ups ((st.ids + 1 : Nat) : Int) ⟨nO, []⟩ }) := by simp [St.start1, nO_valid]
theorem PInv.new (h : PInv l st) : zAw st.ups ((st.ids + 1 : Nat) : Int) = none := (zB7 _ _).2 fun hm => by have := (h.rng _ hm).2; omega
theorem PInv.start (h : PInv l st) : PInv l (st.start1 nO).2.2 := by
  rw [start1_eq]; have hn := h.new
  have hk : zAl (zBv st.ups ((st.ids + 1 : Nat) : Int) (⟨nO, []⟩ : Up)) = zAl st.ups ++ [((st.ids + 1 : Nat) : Int)] := by rw [zEl, if_neg ((zB7 _ _).1 hn)]
  refine ⟨⟨h.small.1, fun i u hm => ?_⟩, h.objs, ?_, fun x hx => ?_, ?_⟩
  · rcases aput_mem hm with hm | hm
    · simp only [Prod.mk.injEq] at hm; rw [hm.2]; exact fun _ _ h => by simp at h
    · exact h.small.2 i u hm
  · simp only [hk, List.nodup_append, List.nodup_cons, List.not_mem_nil, not_false_eq_true, List.nodup_nil, and_self, true_and]
    refine ⟨h.nd, fun a ha b hb => ?_⟩; simp only [List.mem_cons, List.not_mem_nil, or_false] at hb; have := (h.rng a ha).2
    omega
  · simp only [hk, List.mem_append, List.mem_cons, List.not_mem_nil, or_false] at hx
    rcases hx with hx | rfl
    · have := h.rng x hx; simp only; omega
    · simp only; omega
  · rw [aput_app hn]; have := h.len; simp only [List.length_append, List.length_cons, List.length_nil]; omega
def Has (l : List UInt8) (e k : Nat) (id : Int) (st : St) : Prop := zAw st.ups id = some ⟨nO, pts l e k⟩
theorem part1_has (hk : k < 256) {j : Nat} (hj : j = k ∨ j = k + 1) (h : Has l e j id st) : st.part1 id k (zDn l e k) = (0, { st with ups := zBv st.ups id ⟨nO, pts l e (k + 1)⟩ }) := by
  unfold St.part1
  rw [h]
  simp only
  rw [if_neg (by omega)]
  rcases hj with rfl | rfl
  · rw [pts_put]
  · rw [pts_put2]
theorem keys_there {κ α : Type} [DecidableEq κ] {l : List (κ × α)} {k : κ} {v v' : α} (h : zAw l k = some v) : zAl (zBv l k v') = zAl l := by
  rw [zEl, if_pos]
  exact Classical.byContradiction fun hn => by rw [(zB7 _ _).2 hn] at h; cases h
theorem PInv.part (hl : l.length ≤ 256) (h : PInv l st) (hk : k < 256) {j : Nat} (hj : j = k ∨ j = k + 1) (hh : Has l e j id st) : PInv l (st.part1 id k (zDn l e k)).2 ∧ Has l e (k + 1) id (st.part1 id k (zDn l e k)).2 ∧ (st.part1 id k (zDn l e k)).1 = 0 := by
  rw [part1_has hk hj hh]; have hk := keys_there (v' := (⟨nO, pts l e (k + 1)⟩ : Up)) hh; refine ⟨⟨⟨h.small.1, fun i u hm => ?_⟩, h.objs, by simp only [hk]; exact h.nd, fun x hx => ?_, ?_⟩, zB3 _ _ _, rfl⟩
  · rcases aput_mem hm with hm | hm
    · simp only [Prod.mk.injEq] at hm; rw [hm.2]; exact fun i b hb => by have := pts_mem hb; omega
    · exact h.small.2 i u hm
  · simp only [hk] at hx; exact h.rng x hx
  · simp only [len_keys hk]; exact h.len
def Gone (l : List UInt8) (id : Int) (st : St) : Prop := zAw st.ups id = none ∧ st.objs = [(nO, l)]
theorem complete1_gone (h : Gone l id st) (n : Int) : st.complete1 id n = (107, st) := by unfold St.complete1; rw [h.1]
theorem complete1_has (h1 : 1 ≤ e) (h3 : l.length ≤ 256) (h : Has l e (zB2 l.length e) id st) : st.complete1 id (zB2 l.length e : Nat) = (0, { st with objs := zBv st.objs nO l, ups := zDa st.ups id }) := by
  have hp := zDk (n := l.length) h1
  unfold St.complete1
  rw [h]
  simp only
  rw [if_neg (by omega), Int.toNat_natCast, if_pos (pts_all l e _), pts_whole l h1]
theorem PInv.complete (h1 : 1 ≤ e) (h3 : l.length ≤ 256) (h : PInv l st) (hh : Has l e (zB2 l.length e) id st ∨ Gone l id st) :
    PInv l (st.complete1 id (zB2 l.length e : Nat)).2 ∧ Gone l id (st.complete1 id (zB2 l.length e : Nat)).2 ∧ (Has l e (zB2 l.length e) id st → (st.complete1 id (zB2 l.length e : Nat)).1 = 0) ∧ (Gone l id st → (st.complete1 id (zB2 l.length e : Nat)).1 = 107) := by
  rcases hh with hh | hh
  · have hc := zE6 h.small id (zB2 l.length e : Nat)
    rw [complete1_has h1 h3 hh] at hc ⊢; have hk := zEk h.nd id
    have ho : zBv st.objs nO l = [(nO, l)] := by rcases h.objs with h | h <;> simp [h, zBv]
    refine ⟨⟨hc, .inr ho, ?_, fun x hx => ?_, ?_⟩, ⟨zCl h.nd id, ho⟩, fun _ => rfl, fun hg => ?_⟩
    · simp only [hk]; exact h.nd.filter _
    · simp only [hk] at hx; exact h.rng x (List.mem_filter.1 hx).1
    · have h2 : (zAl (zDa st.ups id)).length ≤ (zAl st.ups).length := by rw [hk]; exact List.length_filter_le _ _
      simp only [zAl, List.length_map] at h2; have := h.len
      simp only
      omega
    · have := hg.1
      unfold Has at hh
      rw [hh] at this; cases this
  · rw [complete1_gone hh]
    refine ⟨h, hh, fun hg => ?_, fun _ => rfl⟩; have := hh.1
    unfold Has at hg
    rw [hg] at this; cases this
theorem run_111 {good : St → Nat × St} (h : (st.run good).1 = 111) (hg : (good st.begin).1 ≠ 111) : st.next = 1 ∧ (st.run good).2 = st.begin ∨ st.next = 2 ∧ (st.run good).2 = (good st.begin).2 := by
  unfold St.run at h ⊢
  by_cases h1 : st.next = 1
  · exact .inl ⟨h1, by rw [if_pos h1]⟩
  · rw [if_neg h1] at h ⊢
    by_cases h2 : st.next = 2
    · exact .inr ⟨h2, rfl⟩
    · rw [if_neg h2] at h; exact absurd h hg
theorem run_ans {good : St → Nat × St} (h : (st.run good).1 ≠ 111) : st.next ≠ 1 ∧ st.next ≠ 2 ∧ st.run good = good st.begin := by
  unfold St.run at h ⊢
  by_cases h1 : st.next = 1
  · rw [if_pos h1] at h; exact absurd rfl h
  · rw [if_neg h1] at h ⊢
    by_cases h2 : st.next = 2
    · rw [if_pos h2] at h; exact absurd rfl h
    · rw [if_neg h2]; exact ⟨h1, h2, rfl⟩
theorem run_script {good : St → Nat × St} (hg : ∀ s, (good s).2.script = s.script) (st : St) : (st.run good).2.script.length ≤ st.script.length - 1 := by
  unfold St.run
  split
  · simp [St.begin]
  · simp [hg, St.begin]
theorem again_keep {good : St → Nat × St} (I J : St → Prop) (hb : ∀ s, I s → I s.begin) (hg : ∀ s, I s → I (good s).2 ∧ (good s).1 ≠ 111) {t : Nat} (h : I st) {lost : Bool} {x n : Nat} {st2 : St} (hk : zBg (fun s => s.run good) t st = (lost, x, n, st2)) :
    (x = 111 ∧ I st2) ∨ ∃ s, I s ∧ x = (good s).1 ∧ st2 = (good s).2 ∧ (lost = true ∨ s = st.begin) := by
  have := again_ind (step := fun s : St => s.run good) I (fun s hs h1 => by
    rcases run_111 h1 (hg _ (hb _ hs)).2 with ⟨_, e⟩ | ⟨_, e⟩
    · simp only [e]; exact hb _ hs
    · simp only [e]; exact (hg _ (hb _ hs)).1) t st h
  rw [hk] at this
  rcases this with h | ⟨s, h1, h2, h3, h4, h5⟩
  · exact .inl h
  · obtain ⟨_, _, e⟩ := run_ans h2
    simp only [e] at h3 h4; exact .inr ⟨s.begin, hb _ h1, h3, h4, h5.imp id fun e => by rw [e]⟩
theorem begin_script (st : St) : st.begin.script.length ≤ st.script.length - 1 := by simp [St.begin]
theorem part1_script (id k : Int) (b : List UInt8) (st : St) : (st.part1 id k b).2.script = st.script := by
  unfold St.part1; split
  · rfl
  · split <;> rfl
theorem part1_ids (id k : Int) (b : List UInt8) (st : St) : (st.part1 id k b).2.ids = st.ids := by
  unfold St.part1; split
  · rfl
  · split <;> rfl
theorem complete1_script (id k : Int) (st : St) : (st.complete1 id k).2.script = st.script := by
  unfold St.complete1; split
  · rfl
  · split
    · rfl
    · split <;> rfl
theorem complete1_ids (id k : Int) (st : St) : (st.complete1 id k).2.ids = st.ids := by
  unfold St.complete1; split
  · rfl
  · split
    · rfl
    · split <;> rfl
theorem run_ids {good : St → Nat × St} (hg : ∀ s, (good s).2.ids = s.ids) (st : St) : (st.run good).2.ids = st.ids := by
  unfold St.run
  split
  · rfl
  · simp [hg, St.begin]
end
section
open Go.RowKit
attribute [local irreducible] zAh
variable {g w : World} {L M : List HP} {ad : Nat → Addr} {p q : Nat} {osb K : List (ByteArray × List UInt8)} {l : List UInt8} {st : St} {e k t : Nat} {id : Int} {nm : ByteArray}
structure OsF (osb : List (ByteArray × List UInt8)) : Prop where
  one : ∀ n b b', (n, b) ∈ osb → (n, b') ∈ osb → b = b'
  len : ∀ n b, (n, b) ∈ osb → b.length ≤ 256
  val : ∀ n b, (n, b) ∈ osb → zBq n.data.toList = true
structure PIn (osb K : List (ByteArray × List UInt8)) (st : St) : Prop where
  small : st.small
  objs : ∀ n b, zAw st.objs n = some b → (n, b) ∈ osb
  kept : ∀ x ∈ K, zAw st.objs x.1 = some x.2
  nd : (zAl st.ups).Nodup
  rng : ∀ x ∈ zAl st.ups, 1 ≤ x ∧ x ≤ (st.ids : Nat)
  len : st.ups.length ≤ st.ids
theorem PIn.begin (h : PIn osb K st) : PIn osb K st.begin := ⟨h.small, h.objs, h.kept, h.nd, h.rng, h.len⟩
theorem PIn.empty (s : List Int) : PIn osb [] { St.empty with script := s } := ⟨⟨fun _ _ h => by simp [St.empty] at h, fun _ _ h => by simp [St.empty] at h⟩, fun n b h => by simp [St.empty, zAw] at h, fun x hx => (by cases hx), by simp [St.empty, zAl], fun x hx => (by simp [St.empty, zAl] at hx), by simp [St.empty]⟩
theorem PIn.keep (h : PIn osb K st) {n : ByteArray} {b : List UInt8} (ho : zAw st.objs n = some b) : PIn osb (K ++ [(n, b)]) st := ⟨h.small, h.objs, fun x hx => by
  rcases List.mem_append.1 hx with hx | hx
  · exact h.kept x hx
  · simp only [List.mem_cons, List.not_mem_nil, or_false] at hx; subst hx; exact ho, h.nd, h.rng, h.len⟩
theorem zFt (hv : zBq nm.data.toList = true) (st : St) : st.start1 nm = (0, ((st.ids + 1 : Nat) : Int), { st with ids := st.ids + 1, ups := zBv st.ups ((st.ids + 1 : Nat) : Int) ⟨nm, []⟩ }) := by simp [St.start1, hv]
theorem PIn.new (h : PIn osb K st) : zAw st.ups ((st.ids + 1 : Nat) : Int) = none := (zB7 _ _).2 fun hm => by have := (h.rng _ hm).2; omega
theorem PIn.start (h : PIn osb K st) (hv : zBq nm.data.toList = true) : PIn osb K (st.start1 nm).2.2 := by
  rw [zFt hv]; have hn := h.new
  have hk : zAl (zBv st.ups ((st.ids + 1 : Nat) : Int) (⟨nm, []⟩ : Up)) = zAl st.ups ++ [((st.ids + 1 : Nat) : Int)] := by rw [zEl, if_neg ((zB7 _ _).1 hn)]
  refine ⟨⟨h.small.1, fun i u hm => ?_⟩, h.objs, h.kept, ?_, fun x hx => ?_, ?_⟩
  · rcases aput_mem hm with hm | hm
    · simp only [Prod.mk.injEq] at hm; rw [hm.2]; exact fun _ _ h => by simp at h
    · exact h.small.2 i u hm
  · simp only [hk, List.nodup_append, List.nodup_cons, List.not_mem_nil, not_false_eq_true, List.nodup_nil, and_self, true_and]
    refine ⟨h.nd, fun a ha b hb => ?_⟩; simp only [List.mem_cons, List.not_mem_nil, or_false] at hb; have := (h.rng a ha).2
    omega
  · simp only [hk, List.mem_append, List.mem_cons, List.not_mem_nil, or_false] at hx
    rcases hx with hx | rfl
    · have := h.rng x hx; simp only; omega
    · simp only; omega
  · rw [aput_app hn]; have := h.len; simp only [List.length_append, List.length_cons, List.length_nil]; omega
def HasG (nm : ByteArray) (l : List UInt8) (e k : Nat) (id : Int) (st : St) : Prop := zAw st.ups id = some ⟨nm, pts l e k⟩
theorem partG_has (hk : k < 256) {j : Nat} (hj : j = k ∨ j = k + 1) (h : HasG nm l e j id st) : st.part1 id k (zDn l e k) = (0, { st with ups := zBv st.ups id ⟨nm, pts l e (k + 1)⟩ }) := by
  unfold St.part1
  rw [h]
  simp only
  rw [if_neg (by omega)]
  rcases hj with rfl | rfl
  · rw [pts_put]
  · rw [pts_put2]
theorem PIn.part (hl : l.length ≤ 256) (h : PIn osb K st) (hk : k < 256) {j : Nat} (hj : j = k ∨ j = k + 1) (hh : HasG nm l e j id st) : PIn osb K (st.part1 id k (zDn l e k)).2 ∧ HasG nm l e (k + 1) id (st.part1 id k (zDn l e k)).2 ∧ (st.part1 id k (zDn l e k)).1 = 0 := by
  rw [partG_has hk hj hh]; have hk := keys_there (v' := (⟨nm, pts l e (k + 1)⟩ : Up)) hh; refine ⟨⟨⟨h.small.1, fun i u hm => ?_⟩, h.objs, h.kept, by simp only [hk]; exact h.nd, fun x hx => ?_, ?_⟩, zB3 _ _ _, rfl⟩
  · rcases aput_mem hm with hm | hm
    · simp only [Prod.mk.injEq] at hm; rw [hm.2]; exact fun i b hb => by have := pts_mem hb; omega
    · exact h.small.2 i u hm
  · simp only [hk] at hx; exact h.rng x hx
  · simp only [len_keys hk]; exact h.len
def zG9 (nm : ByteArray) (l : List UInt8) (id : Int) (st : St) : Prop := zAw st.ups id = none ∧ zAw st.objs nm = some l
theorem completeG_gone (h : zG9 nm l id st) (n : Int) : st.complete1 id n = (107, st) := by unfold St.complete1; rw [h.1]
theorem completeG_has (h1 : 1 ≤ e) (h3 : l.length ≤ 256) (h : HasG nm l e (zB2 l.length e) id st) : st.complete1 id (zB2 l.length e : Nat) = (0, { st with objs := zBv st.objs nm l, ups := zDa st.ups id }) := by
  have hp := zDk (n := l.length) h1
  unfold St.complete1
  rw [h]
  simp only
  rw [if_neg (by omega), Int.toNat_natCast, if_pos (pts_all l e _), pts_whole l h1]
theorem hasG_gone {k : Nat} (h : HasG nm l e k id st) (hg : zG9 nm l id st) : False := by
  have := hg.1
  unfold HasG at h
  rw [h] at this
  cases this
theorem PIn.complete (hO : OsF osb) (hm : (nm, l) ∈ osb) (hKo : ∀ x ∈ K, x ∈ osb) (h1 : 1 ≤ e) (h3 : l.length ≤ 256) (h : PIn osb K st) (hh : HasG nm l e (zB2 l.length e) id st ∨ zG9 nm l id st) :
    PIn osb K (st.complete1 id (zB2 l.length e : Nat)).2 ∧ zG9 nm l id (st.complete1 id (zB2 l.length e : Nat)).2 ∧ (HasG nm l e (zB2 l.length e) id st → (st.complete1 id (zB2 l.length e : Nat)).1 = 0) ∧ (zG9 nm l id st → (st.complete1 id (zB2 l.length e : Nat)).1 = 107) := by
  rcases hh with hh | hh
  · have hc := zE6 h.small id (zB2 l.length e : Nat)
    rw [completeG_has h1 h3 hh] at hc ⊢; have hk := zEk h.nd id; refine ⟨⟨hc, fun n b hb => ?_, fun x hx => ?_, ?_, fun x hx => ?_, ?_⟩, ⟨zCl h.nd id, zB3 _ _ _⟩, fun _ => rfl, fun hg => (hasG_gone hh hg).elim⟩
    · by_cases e1 : n = nm
      · subst e1; have hb : zAw (zBv st.objs n l) n = some b := hb; rw [zB3] at hb; cases hb; exact hm
      · have hb : zAw (zBv st.objs nm l) n = some b := hb; rw [zAy _ _ e1] at hb; exact h.objs n b hb
    · show zAw (zBv st.objs nm l) x.1 = some x.2
      by_cases e1 : x.1 = nm
      · rw [e1, zB3]
        exact congrArg some (hO.one nm l x.2 hm (by rw [← e1]; exact hKo x hx))
      · rw [zAy _ _ e1]; exact h.kept x hx
    · simp only [hk]; exact h.nd.filter _
    · simp only [hk] at hx; exact h.rng x (List.mem_filter.1 hx).1
    · have h2 : (zAl (zDa st.ups id)).length ≤ (zAl st.ups).length := by rw [hk]; exact List.length_filter_le _ _
      simp only [zAl, List.length_map] at h2; have := h.len
      simp only
      omega
  · rw [completeG_gone hh]
    exact ⟨h, hh, fun hg => (hasG_gone hg hh).elim, fun _ => rfl⟩
theorem zEg (hv : zBq nm.data.toList = true) (st : St) : st.startR nm = if st.next = 1 then (0, 111, st.begin) else if st.next = 2 then (0, 111, (st.begin.start1 nm).2.2) else (((st.ids + 1 : Nat) : Int), 0, (st.begin.start1 nm).2.2) := by
  unfold St.startR
  split
  · rfl
  · split
    · rfl
    · rw [zFt hv]; rfl
theorem startG_script (hv : zBq nm.data.toList = true) (s : St × Int) : (zBi nm s).2.1.script.length ≤ s.1.script.length - 1 := by
  simp only [zBi, zEg hv]
  split
  · exact begin_script _
  · split <;> (simp only [zFt hv]; exact begin_script _)
theorem startG_res (hv : zBq nm.data.toList = true) (h : PIn osb K st) {lost : Bool} {x n : Nat} {st2 : St} {i : Int} (hk : zBg (zBi nm) t (st, 0) = (lost, x, n, st2, i)) : PIn osb K st2 ∧ (x = 111 ∨ x = 0 ∧ 1 ≤ i ∧ i ≤ (st2.ids : Nat) ∧ HasG nm l e 0 i st2) ∧ (st.script = [] → 1 ≤ t → x ≠ 111) := by
  refine ⟨?_, ?_, ?_⟩
  · have := again_ind (step := zBi nm) (fun s => PIn osb K s.1) (fun s hs h1 => by
      simp only [zBi, zEg hv] at h1 ⊢
      split
      · exact hs.begin
      · split <;> exact hs.begin.start hv) t (st, 0) h
    rw [hk] at this
    rcases this with ⟨_, h⟩ | ⟨s, hs, _, _, h, _⟩
    · exact h
    · have e2 : st2 = (zBi nm s).2.1 := congrArg Prod.fst h
      rw [e2]; simp only [zBi, zEg hv]
      split
      · exact hs.begin
      · split <;> exact hs.begin.start hv
  · have := again_ind (step := zBi nm) (fun s => PIn osb K s.1) (fun s hs h1 => by
      simp only [zBi, zEg hv] at h1 ⊢
      split
      · exact hs.begin
      · split <;> exact hs.begin.start hv) t (st, 0) h
    rw [hk] at this
    rcases this with ⟨h, _⟩ | ⟨s, hs, h1, h2, h3, _⟩
    · exact .inl h
    · have e2 : st2 = (zBi nm s).2.1 := congrArg Prod.fst h3
      have e3 : i = (zBi nm s).2.2 := congrArg Prod.snd h3; simp only at h2; rw [e2, e3, h2]; simp only [zBi, zEg hv] at h1 ⊢
      by_cases n1 : s.1.next = 1
      · rw [if_pos n1] at h1; exact absurd rfl h1
      · rw [if_neg n1] at h1 ⊢
        by_cases n2 : s.1.next = 2
        · rw [if_pos n2] at h1; exact absurd rfl h1
        · rw [if_neg n2]
          refine .inr ⟨rfl, by simp only; omega, ?_, ?_⟩
          · rw [zFt hv]; exact Int.le_refl _
          · rw [zFt hv]
            exact zB3 _ _ _
  · intro hn ht
    have n0 : st.next = 0 := by simp [St.next, hn]
    have h0 : (zBi nm (st, 0)).1 ≠ 111 := by simp only [zBi, zEg hv]; rw [if_neg (by omega), if_neg (by omega)]; show (0 : Nat) ≠ 111; decide
    obtain ⟨t, rfl⟩ : ∃ t', t = t' + 1 := ⟨t - 1, by omega⟩; have := again_first (t := t) h0; rw [hk] at this
    have e1 : x = (zBi nm (st, 0)).1 := by have := congrArg (fun r => r.2.1) this; exact this
    rw [e1]; exact h0
theorem runG_first {good : St → Nat × St} (hn : st.script = []) (hg : ∀ s, st.begin = s → (good s).1 ≠ 111) {t : Nat} {lost : Bool} {x n : Nat} {st2 : St} (hk : zBg (fun s => s.run good) (t + 1) st = (lost, x, n, st2)) : lost = false ∧ x ≠ 111 := by
  have n0 : st.next = 0 := by simp [St.next, hn]
  have hr : st.run good = good st.begin := by unfold St.run; rw [if_neg (by omega)]; simp [n0]
  have h1 : ((fun s : St => s.run good) st).1 ≠ 111 := by simp only [hr]; exact hg _ rfl
  have := again_first (step := fun s : St => s.run good) (t := t) h1; rw [hk] at this; refine ⟨congrArg (fun r => r.1) this, ?_⟩; have e1 : x = (st.run good).1 := congrArg (fun r => r.2.1) this
  rw [e1]; exact h1
theorem runG_bud {good : St → Nat × St} (hgc : ∀ st, (good st).2.calls = st.calls ∧ (good st).2.failed = st.failed) (hgi : ∀ s, (good s).2.ids = s.ids) (hgs : ∀ s, (good s).2.script = s.script) {lost : Bool} {x n : Nat} {st2 : St} (hk : zBg (fun s => s.run good) (t + 1) st = (lost, x, n, st2)) :
    st2.calls ≤ st.calls + (t + 1) ∧ st2.failed ≤ st.failed + (t + 1) ∧ st2.ids = st.ids ∧ n ≤ t + 1 ∧ st2.script.length ≤ st.script.length - 1 := by
  have h1 := zEp (step := fun s : St => s.run good) (fun s => s.calls) (fun s => Nat.le_of_eq (zFb hgc s).1) (t + 1) st; have h2 := zEp (step := fun s : St => s.run good) (fun s => s.failed) (fun s => (zFb hgc s).2) (t + 1) st; have h3 := again_n (step := fun s : St => s.run good) (t + 1) st; have h4 := again_less (step := fun s : St => s.run good) (fun s => s.script.length) (fun s => run_script hgs s) t st
  have h5 : ∀ (t : Nat) (s : St), (zBg (fun s : St => s.run good) t s).2.2.2.ids = s.ids := by
    intro t
    induction t with
    | zero => intro s; rfl
    | succ t ih =>
      intro s; simp only [zBg]
      split
      · simp only [ih]; exact run_ids hgi s
      · exact run_ids hgi s
  have h5 := h5 (t + 1) st; rw [hk] at h1 h2 h3 h4 h5; exact ⟨h1, h2, h5, h3, h4⟩
theorem headG_res (h : PIn osb K st) (hg : zG9 nm l id st) {lost : Bool} {x n : Nat} {st2 : St} {i j : Int} (hk : zBg (zBw nm) t (st, 0, 0) = (lost, x, n, st2, i, j)) :
    PIn osb K st2 ∧ zG9 nm l id st2 ∧ (x = 111 ∨ x = 0 ∧ i = (l.length : Nat) ∧ j = (zBz 0 l : Nat)) := by
  have hh : ∀ s : St, zG9 nm l id s → s.headR nm = if s.next = 1 ∨ s.next = 2 then (0, 0, 111, s.begin) else (((l.length : Nat) : Int), ((zBz 0 l : Nat) : Int), 0, s.begin) := fun s hs => by
    have h0 : s.begin.head1 nm = (0, ((l.length : Nat) : Int), ((zBz 0 l : Nat) : Int)) := by
      have : zAw s.begin.objs nm = some l := hs.2
      simp [St.head1, this]
    unfold St.headR
    split
    · rfl
    · rw [h0]; simp
  have := again_ind (step := zBw nm) (fun s => PIn osb K s.1 ∧ zG9 nm l id s.1) (fun s hs h1 => by
      simp only [zBw, zD5]
      exact ⟨hs.1.begin, hs.2⟩) t (st, 0, 0) ⟨h, hg⟩
  rw [hk] at this
  rcases this with ⟨h, h1, h2⟩ | ⟨s, ⟨h0, hs⟩, h1, h2, h3, _⟩
  · exact ⟨h1, h2, .inl h⟩
  · have e2 : st2 = (zBw nm s).2.1 := congrArg Prod.fst h3
    have e3 : i = (zBw nm s).2.2.1 := congrArg (fun r => r.2.1) h3; have e4 : j = (zBw nm s).2.2.2 := congrArg (fun r => r.2.2) h3; have e5 : x = (zBw nm s).1 := h2; subst e2 e3 e4 e5; simp only [zBw] at h1 ⊢; rw [zD5]; refine ⟨h0.begin, hs, ?_⟩; rw [hh _ hs] at h1 ⊢
    split
    · exact .inl rfl
    · exact .inr ⟨rfl, rfl, rfl⟩
theorem headG_bud {lost : Bool} {x n : Nat} {st2 : St} {i j : Int} (hk : zBg (zBw nm) t (st, 0, 0) = (lost, x, n, st2, i, j)) :
    st2.calls ≤ st.calls + t ∧ st2.failed ≤ st.failed + t ∧ st2.ids = st.ids ∧ n ≤ t ∧ st2.script.length ≤ st.script.length := by
  have h1 := zEp (step := zBw nm) (fun s => s.1.calls) (fun s => by have := begin_counts s.1; simp only [zBw, zD5]; omega) t (st, 0, 0); have h2 := zEp (step := zBw nm) (fun s => s.1.failed) (fun s => by have := begin_counts s.1; simp only [zBw, zD5]; omega) t (st, 0, 0); have h3 := again_n (step := zBw nm) t (st, 0, 0); have h4 := again_less0 (step := zBw nm) (fun s => s.1.script.length) (fun s => by simp only [zBw, zD5]; exact begin_script _) t (st, 0, 0)
  have h5 : ∀ (t : Nat) (s : St × Int × Int), (zBg (zBw nm) t s).2.2.2.1.ids = s.1.ids := by
    intro t
    induction t with
    | zero => intro s; rfl
    | succ t ih =>
      intro s; simp only [zBg]
      split
      · simp only [ih]; simp only [zBw, zD5]; rfl
      · simp only [zBw, zD5]; rfl
  have h5 := h5 t (st, 0, 0); rw [hk] at h1 h2 h3 h4 h5; exact ⟨h1, h2, h5, h3, h4⟩
end
section
open Go.RowKit
attribute [local irreducible] zAh
variable {g w : World} {L M : List HP} {ad : Nat → Addr} {p q : Nat} {osb K : List (ByteArray × List UInt8)} {l : List UInt8} {st : St} {e k t : Nat} {id : Int} {nm : ByteArray}
def PhaseG (nm : ByteArray) (l : List UInt8) (e : Nat) (id : Int) (done : Nat) (st : St) (m : Nat) : Prop :=
  (id = 0 ∧ done = 0 ∧ m = zB2 l.length e + 2) ∨
  (1 ≤ id ∧ id ≤ (st.ids : Nat) ∧ done ≤ zB2 l.length e ∧ m = zB2 l.length e - done + 1 ∧ (HasG nm l e done id st ∨ done < zB2 l.length e ∧ HasG nm l e (done + 1) id st)) ∨
  (1 ≤ id ∧ id ≤ (st.ids : Nat) ∧ done = zB2 l.length e ∧ m = zB2 l.length e + 3 ∧ zG9 nm l id st)
def CleanG (l : List UInt8) (e : Nat) (id : Int) (st : St) (m : Nat) : Prop := st.script = [] ∧ (∀ x ∈ zAl st.ups, x = id) ∧ m ≤ zB2 l.length e + 2
def PResG (osb K : List (ByteArray × List UInt8)) (nm : ByteArray) (l : List UInt8) (e t : Nat) (id : Int) (done : Nat) (st : St) (m : Nat) (id' : Int) (done' : Nat) (is : Bool) (x : Nat) (st' : St) : Prop :=
  PIn osb K st' ∧ st'.calls ≤ st.calls + 2 * t ∧ st'.failed ≤ st.failed + 2 * t ∧ st'.ids ≤ st.ids + t ∧ st'.script.length ≤ st.script.length - 1 ∧
  (x = 111 ∧ is = false ∧ id' = id ∧ done' = done ∧ st.script ≠ [] ∧ (∃ m', PhaseG nm l e id' done' st' m') ∨
   x = 0 ∧ is = false ∧ (∃ m', PhaseG nm l e id' done' st' m' ∧ m' + 1 ≤ m ∧ (CleanG l e id st m → CleanG l e id' st' m' ∧ m' + 1 = m)) ∨
   x = 0 ∧ is = true ∧ zG9 nm l id st' ∧ (CleanG l e id st m → m = 1 ∧ st'.ups = [] ∧ st'.script = []))
theorem PhaseG.le (h : PhaseG nm l e id k st t) : t ≤ zB2 l.length e + 3 ∧ 1 ≤ t ∧ k ≤ zB2 l.length e ∧ 0 ≤ id := by
  rcases h with ⟨h1, h2, h3⟩ | ⟨h1, h2, h3, h4, _⟩ | ⟨h1, h2, h3, h4, _⟩
  · exact ⟨by omega, by omega, by omega, by omega⟩
  · exact ⟨by omega, by omega, by omega, by omega⟩
  · exact ⟨by omega, by omega, by omega, by omega⟩
theorem zF4 {st st' : St} (h : st'.script.length ≤ st.script.length - 1) (hn : st.script = []) : st'.script = [] := by
  rw [hn] at h; exact List.eq_nil_of_length_eq_zero (by simpa using h)
theorem startG_all (hv : zBq nm.data.toList = true) (h : PIn osb K st) {lost : Bool} {x n : Nat} {st2 : St} {i : Int} (hk : zBg (zBi nm) (t + 1) (st, 0) = (lost, x, n, st2, i)) :
    PResG osb K nm l e (t + 1) 0 0 st (zB2 l.length e + 2) (if x = 0 then i else 0) 0 false x st2 ∧ n ≤ t + 1 := by
  obtain ⟨r1, r2, r3⟩ := startG_res (l := l) (e := e) hv h hk; have c1 := zEp (step := zBi nm) (fun s => s.1.calls) (fun s => by have := zF nm s.1; simp only [zBi]; omega) (t + 1) (st, 0); have c2 := zEp (step := zBi nm) (fun s => s.1.failed) (fun s => by have := zF nm s.1; simp only [zBi]; omega) (t + 1) (st, 0); have c3 := zEp (step := zBi nm) (fun s => s.1.ids) (fun s => by have := zF nm s.1; simp only [zBi]; omega) (t + 1) (st, 0); have c4 := again_n (step := zBi nm) (t + 1) (st, 0); have c5 := again_less (step := zBi nm) (fun s => s.1.script.length) (startG_script hv) t (st, 0)
  have hcl : st.script = [] → i = ((st.ids + 1 : Nat) : Int) ∧ st2 = (st.begin.start1 nm).2.2 := fun hn => by
    have n0 : st.next = 0 := by simp [St.next, hn]
    have e1 : st.startR nm = (((st.ids + 1 : Nat) : Int), 0, (st.begin.start1 nm).2.2) := by rw [zEg hv, if_neg (by omega), if_neg (by omega)]
    have h0 : (zBi nm (st, 0)).1 ≠ 111 := by simp only [zBi, e1]; decide
    have h1 := again_first (t := t) h0; rw [hk] at h1; simp only [zBi, e1, Prod.mk.injEq] at h1; exact ⟨h1.2.2.2.2, h1.2.2.2.1⟩
  rw [hk] at c1 c2 c3 c4 c5; simp only at c1 c2 c3 c4 c5; refine ⟨⟨r1, by omega, by omega, c3, c5, ?_⟩, c4⟩
  rcases r2 with rfl | ⟨rfl, hi1, hi2, hh⟩
  · exact .inl ⟨rfl, rfl, by rw [if_neg (by decide)], rfl, fun hn => r3 hn (by omega) rfl, _, .inl ⟨by rw [if_neg (by decide)], rfl, rfl⟩⟩
  · rw [if_pos rfl]
    refine .inr (.inl ⟨rfl, rfl, zB2 l.length e + 1, .inr (.inl ⟨hi1, hi2, Nat.zero_le _, rfl, .inl hh⟩), by omega, fun hc => ⟨⟨zF4 c5 hc.1, fun y hy => ?_, by omega⟩, by omega⟩⟩); obtain ⟨e1, e2⟩ := hcl hc.1
    have hups : st.ups = [] := by
      cases hu : st.ups with
      | nil => rfl
      | cons z zs =>
        have hz : z.1 ∈ zAl st.ups := by rw [hu]; exact List.mem_cons_self ..
        have h1 := hc.2.1 z.1 hz; have h2 := h.rng z.1 hz
        omega
    rw [e2, zFt hv] at hy; have hy : y ∈ zAl (zBv st.ups ((st.ids + 1 : Nat) : Int) (⟨nm, []⟩ : Up)) := hy; rw [hups] at hy; simp only [zBv, zAl, List.map_cons, List.map_nil, List.mem_cons, List.not_mem_nil, or_false] at hy; rw [hy, e1]
theorem part_all (h : PIn osb K st) (he : 1 ≤ e) (hl : l.length ≤ 256) (hi : 1 ≤ id) (hi2 : id ≤ (st.ids : Nat)) (hd : k < zB2 l.length e) (hh : HasG nm l e k id st ∨ HasG nm l e (k + 1) id st) {lost : Bool} {x n : Nat} {st2 : St} (hk : zBg (fun s => s.run (St.part1 id k (zDn l e k))) (t + 1) st = (lost, x, n, st2)) :
    PResG osb K nm l e (t + 1) id k st (zB2 l.length e - k + 1) id (if x = 0 then k + 1 else k) false x st2 ∧ n ≤ t + 1 ∧ x ≠ 107 := by
  have hP := zDk (n := l.length) he; obtain ⟨c1, c2, c3, c4, c5⟩ := runG_bud (part1_counts id k (zDn l e k)) (part1_ids id k _) (part1_script id k _) hk
  have hg : ∀ s : St, (PIn osb K s ∧ (HasG nm l e k id s ∨ HasG nm l e (k + 1) id s)) → PIn osb K (s.part1 id k (zDn l e k)).2 ∧ HasG nm l e (k + 1) id (s.part1 id k (zDn l e k)).2 ∧ (s.part1 id k (zDn l e k)).1 = 0 := fun s ⟨k1, k2⟩ =>
    k2.elim (k1.part hl (by omega) (.inl rfl)) (k1.part hl (by omega) (.inr rfl))
  have hkeys : ∀ s : St, (HasG nm l e k id s ∨ HasG nm l e (k + 1) id s) → zAl (s.part1 id k (zDn l e k)).2.ups = zAl s.ups := fun s k2 => by
    rcases k2 with k2 | k2
    · rw [partG_has (by omega) (.inl rfl) k2]; exact keys_there k2
    · rw [partG_has (by omega) (.inr rfl) k2]; exact keys_there k2
  have hx := again_keep (good := St.part1 id k (zDn l e k)) (fun s => PIn osb K s ∧ (HasG nm l e k id s ∨ HasG nm l e (k + 1) id s) ∧ zAl s.ups = zAl st.ups) (fun _ => True) (fun s k => ⟨k.1.begin, k.2⟩) (fun s k => by have := hg s ⟨k.1, k.2.1⟩; exact ⟨⟨this.1, .inr this.2.1, (hkeys s k.2.1).trans k.2.2⟩, by rw [this.2.2]; decide⟩) ⟨h, hh, rfl⟩ hk
  rcases hx with ⟨rfl, k1, k2, k3⟩ | ⟨s, ⟨k1, k0, k4⟩, k2, k3, _⟩
  · refine ⟨⟨k1, by omega, by omega, by omega, c5, .inl ⟨rfl, rfl, rfl, by rw [if_neg (by decide)], fun hn => ?_, zB2 l.length e - k + 1, .inr (.inl ⟨hi, by omega, by rw [if_neg (by decide)]; omega, by rw [if_neg (by decide)], ?_⟩)⟩⟩, c4, by decide⟩
    · exact absurd rfl (runG_first hn (fun s hs => by have := hg s (hs ▸ ⟨h.begin, hh⟩); rw [this.2.2]; decide) hk).2
    · rw [if_neg (by decide)]; exact k2.imp _root_.id fun h => ⟨hd, h⟩
  · obtain ⟨g1, g2, g3⟩ := hg s ⟨k1, k0⟩
    rw [g3] at k2; subst k2 k3; rw [if_pos rfl]; exact ⟨⟨g1, by omega, by omega, by omega, c5, .inr (.inl ⟨rfl, rfl, zB2 l.length e - (k + 1) + 1, .inr (.inl ⟨hi, by omega, by omega, rfl, .inl g2⟩), by omega, fun hc => ⟨⟨zF4 c5 hc.1, fun y hy => hc.2.1 y (by rw [hkeys s k0, k4] at hy; exact hy), by omega⟩, by omega⟩⟩)⟩, c4, by decide⟩
set_option maxHeartbeats 800000 in
theorem ps_gen (hE : ErrG ad g) (hO : OsF osb) (hm : (nm, l) ∈ osb) (hKo : ∀ x ∈ K, x ∈ osb) (h1 : 1 ≤ e) (h2 : e ≤ 1000) (ht : t + 1 ≤ 8) {done a m : Nat} (hv : PIn osb K st) (hph : PhaseG nm l e id done st m) (hcl : st.calls ≤ 1000000) (hfl : st.failed ≤ 1000000) (hid : st.ids ≤ 1000000) (ha : a ≤ 1000000) (hs : Mem g w (zBf q p ((t + 1 : Nat) : Int) (a : Nat) :: zB8 p st :: M)) {ba : Option Addr} {c : Nat} (hr : Rd g M (.slice ba l.length c) (zAm l)) :
    Calls Tryz.prog 99 #[.pointer (some ⟨q, 0, none⟩), .agg (planC nm l.length (zBz 0 l : Nat) e (zB2 l.length e : Nat)).toArray, .slice ba l.length c, .int .i64 id, .int .i64 (done : Nat)] w
      (Ret fun v w' => ∃ (id' : Int) (done' : Nat) (is : Bool) (x : Nat) (st' : St) (a' : Nat), v = .tuple #[.int .i64 id', .int .i64 (done' : Nat), .bool is, zAh ad x] ∧ a' ≤ a + 2 * (t + 1) ∧ PResG osb K nm l e (t + 1) id done st m id' done' is x st' ∧ Mem g w' (zBf q p ((t + 1 : Nat) : Int) (a' : Nat) :: zB8 p st' :: M)) := by
  have hl := hO.len nm l hm; have hva := hO.val nm l hm; have hP := zDk (n := l.length) h1; have hF : Fair l.length e (zB2 l.length e) := fairN h1 h2 hl
  by_cases hz : id = 0
  · subst hz
    have hd : done = 0 ∧ m = zB2 l.length e + 2 := by rcases hph with h | h | h <;> first | exact h.2 | (exfalso; omega)
    obtain ⟨rfl, rfl⟩ := hd; obtain ⟨lost, x, n, st2, i2, hk⟩ : ∃ lost x n st2 i2, zBg (zBi nm) (t + 1) (st, 0) = (lost, x, n, st2, i2) := ⟨_, _, _, _, _, rfl⟩; obtain ⟨r1, r2⟩ := startG_all (l := l) (e := e) hva hv hk; refine (step_start (t := t + 1) hE ⟨by omega, by omega⟩ ht hs (by omega) (by omega) (by omega) hF (done := ((0 : Nat) : Int)) ⟨by omega, by omega⟩ hk).mono ?_; rintro _ w' ⟨v, rfl, rfl, hs⟩; refine ⟨_, rfl, (if x = 0 then i2 else 0), 0, false, x, st2, a + n, ?_, by omega, r1, hs⟩
    split <;> rfl
  · by_cases hd : done < zB2 l.length e
    · have hm' : 1 ≤ id ∧ id ≤ (st.ids : Nat) ∧ m = zB2 l.length e - done + 1 ∧ (HasG nm l e done id st ∨ HasG nm l e (done + 1) id st) := by
        rcases hph with h | ⟨k1, k0, k2, k3, k4⟩ | h
        · exact absurd h.1 hz
        · exact ⟨k1, k0, k3, k4.imp (fun h => h) fun h => h.2⟩
        · omega
      obtain ⟨hi1, hi2, rfl, hh⟩ := hm'; obtain ⟨lost, x, n, st2, hk⟩ : ∃ lost x n st2, zBg (fun s => s.run (St.part1 id done (zDn l e done))) (t + 1) st = (lost, x, n, st2) := ⟨_, _, _, _, rfl⟩; obtain ⟨r1, r2, r3⟩ := part_all hv h1 hl hi1 hi2 hd hh hk; refine (step_part (t := t + 1) (l := l) hE ⟨by omega, by omega⟩ ht hs (by omega) (by omega) hF hz hd hr hk).mono ?_; rintro _ w' ⟨v, rfl, rfl, hs⟩; refine ⟨_, rfl, id, (if x = 0 then done + 1 else done), false, x, st2, a + n, ?_, by omega, r1, hs⟩; rw [if_neg r3, if_neg r3, if_neg r3]
      split <;> rfl
    · have hm' : done = zB2 l.length e ∧ 1 ≤ id ∧ id ≤ (st.ids : Nat) ∧ ((m = 1 ∧ HasG nm l e (zB2 l.length e) id st) ∨ (m = zB2 l.length e + 3 ∧ zG9 nm l id st)) := by
        rcases hph with h | ⟨k1, k0, k2, k3, k4⟩ | ⟨k1, k0, k2, k3, k4⟩
        · exact absurd h.1 hz
        · have : done = zB2 l.length e := by omega
          subst this; refine ⟨rfl, k1, k0, .inl ⟨by omega, ?_⟩⟩
          rcases k4 with k4 | k4
          · exact k4
          · omega
        · exact ⟨k2, k1, k0, .inr ⟨k3, k4⟩⟩
      obtain ⟨rfl, hi1, hi2, hh⟩ := hm'; obtain ⟨lost, x, n, st2, hk⟩ : ∃ lost x n st2, zBg (fun s => s.run (St.complete1 id (zB2 l.length e : Nat))) (t + 1) st = (lost, x, n, st2) := ⟨_, _, _, _, rfl⟩; obtain ⟨l2, y, n2, st3, i3, j3, hq⟩ : ∃ l2 y n2 st3 i3 j3, zBg (zBw nm) (t + 1) (st2, 0, 0) = (l2, y, n2, st3, i3, j3) := ⟨_, _, _, _, _, _, rfl⟩; obtain ⟨c1, c2, c3, c4, c5⟩ := runG_bud (zEv id (zB2 l.length e : Nat)) (complete1_ids id _) (complete1_script id _) hk; obtain ⟨d1, d2, d3, d4, d5⟩ := headG_bud hq
      have hI : HasG nm l e (zB2 l.length e) id st ∨ zG9 nm l id st := hh.imp (fun h => h.2) fun h => h.2
      have hg : ∀ s : St, (PIn osb K s ∧ (HasG nm l e (zB2 l.length e) id s ∨ zG9 nm l id s)) → PIn osb K (s.complete1 id (zB2 l.length e : Nat)).2 ∧ zG9 nm l id (s.complete1 id (zB2 l.length e : Nat)).2 ∧ (HasG nm l e (zB2 l.length e) id s → (s.complete1 id (zB2 l.length e : Nat)).1 = 0) ∧ (zG9 nm l id s → (s.complete1 id (zB2 l.length e : Nat)).1 = 107) := fun s ⟨k1, k2⟩ => k1.complete hO hm hKo h1 hl k2
      have hg1 : ∀ s : St, (PIn osb K s ∧ (HasG nm l e (zB2 l.length e) id s ∨ zG9 nm l id s)) → (s.complete1 id (zB2 l.length e : Nat)).1 ≠ 111 := fun s k => by
        have := hg s k
        rcases k.2 with k | k
        · rw [this.2.2.1 k]; decide
        · rw [this.2.2.2 k]; decide
      have hx := again_keep (good := St.complete1 id (zB2 l.length e : Nat)) (fun s => PIn osb K s ∧ (HasG nm l e (zB2 l.length e) id s ∨ zG9 nm l id s)) (fun _ => True) (fun s k => ⟨k.1.begin, k.2⟩) (fun s k => ⟨⟨(hg s k).1, .inr (hg s k).2.1⟩, hg1 s k⟩) ⟨hv, hI⟩ hk
      have hfirst : st.script = [] → lost = false ∧ x ≠ 111 := fun hn => runG_first hn (fun s hs => hg1 s (hs ▸ ⟨hv.begin, hI⟩)) hk
      refine (step_complete (t := t + 1) (id := id) hE hv.small ⟨by omega, by omega⟩ ht hs (by omega) (by omega) hF hz hk hq rfl rfl rfl).mono ?_; rintro _ w' ⟨v, rfl, rfl, hs⟩
      rcases hx with ⟨rfl, k1, k2⟩ | ⟨s, k1, k2, k3, k4⟩
      · have hc : ¬ (lost = true ∧ (111 : Nat) = 107) := fun h => absurd h.2 (by decide)
        simp only [if_neg hc] at hs ⊢
        have hns : st.script ≠ [] := fun hn => (hfirst hn).2 rfl
        refine ⟨_, rfl, id, zB2 l.length e, false, 111, st2, a + n, rfl, by omega, ⟨k1, by omega, by omega, by omega, c5, .inl ⟨rfl, rfl, rfl, rfl, hns, ?_⟩⟩, hs⟩
        rcases k2 with k2 | k2
        · exact ⟨_, .inr (.inl ⟨hi1, by omega, Nat.le_refl _, rfl, .inl k2⟩)⟩
        · exact ⟨_, .inr (.inr ⟨hi1, by omega, rfl, rfl, k2⟩)⟩
      · obtain ⟨g1, g2, g3, g4⟩ := hg s k1
        rcases k1.2 with hs1 | hs1
        · rw [g3 hs1] at k2
          subst k2 k3
          have hc : ¬ (lost = true ∧ (0 : Nat) = 107) := fun h => absurd h.2 (by decide)
          simp only [if_neg hc] at hs ⊢; refine ⟨_, rfl, id, zB2 l.length e, true, 0, _, a + n, rfl, by omega, ⟨g1, by omega, by omega, by omega, c5, .inr (.inr ⟨rfl, rfl, g2, fun hcl => ?_⟩)⟩, hs⟩
          have hsb : s = st.begin := by
            rcases k4 with h | h
            · have := (hfirst hcl.1).1; rw [h] at this; cases this
            · exact h
          have hm1 : m = 1 := by
            rcases hh with h | h
            · exact h.1
            · have := hcl.2.2; omega
          refine ⟨hm1, ?_, zF4 c5 hcl.1⟩; rw [hsb] at hs1 ⊢; rw [completeG_has h1 hl hs1]
          show zDa st.ups id = []
          have hkk := zEk hv.nd id
          cases hu : zDa st.ups id with
          | nil => rfl
          | cons z zs =>
            have hz1 : z.1 ∈ zAl (zDa st.ups id) := by rw [hu]; exact List.mem_cons_self ..
            rw [hkk, List.mem_filter] at hz1; have h5 := hcl.2.1 z.1 hz1.1; have h6 := hz1.2; rw [h5] at h6
            simp at h6
        · rw [g4 hs1] at k2
          subst k2; subst k3
          cases lost with
          | true =>
            obtain ⟨e1, e2, e3⟩ := headG_res g1 g2 hq
            have hns : st.script ≠ [] := fun hn => absurd (hfirst hn).1 (by decide)
            simp only [and_self, if_true] at hs ⊢
            rcases e3 with rfl | ⟨rfl, rfl, rfl⟩
            · simp only [if_true] at hs ⊢
              exact ⟨_, rfl, id, zB2 l.length e, false, 111, st3, a + (n + n2), rfl, by omega, ⟨e1, by omega, by omega, by omega, by omega, .inl ⟨rfl, rfl, rfl, rfl, hns, _, .inr (.inr ⟨hi1, by omega, rfl, rfl, e2⟩)⟩⟩, hs⟩
            · exact ⟨_, rfl, id, zB2 l.length e, true, 0, st3, a + (n + n2), by simp, by omega, ⟨e1, by omega, by omega, by omega, by omega, .inr (.inr ⟨rfl, rfl, e2, fun hcl => absurd hcl.1 hns⟩)⟩, hs⟩
          | false =>
            have hc : ¬ (false = true ∧ (107 : Nat) = 107) := fun h => absurd h.1 (by decide)
            simp only [if_neg hc] at hs ⊢
            have hsb : s = st.begin := by rcases k4 with h | h; cases h; exact h
            have hgs : zG9 nm l id st := by rw [hsb] at hs1; exact hs1
            have hm2 : m = zB2 l.length e + 3 := by rcases hh with ⟨_, h⟩ | ⟨h, _⟩; exact (hasG_gone h hgs).elim; exact h
            subst hm2; exact ⟨_, rfl, 0, 0, false, 0, _, a + n, rfl, by omega, ⟨g1, by omega, by omega, by omega, c5, .inr (.inl ⟨rfl, rfl, _, .inl ⟨rfl, rfl, rfl⟩, by omega, fun hcl => by have := hcl.2.2; omega⟩)⟩, hs⟩
end
section
open Go.RowKit
attribute [local irreducible] zAh eV
variable {g w : World} {L M : List HP} {ad : Nat → Addr} {p u : Nat} {dk : Dk} {st : St}
def upCodes : List Nat := [101, 102, 103, 104, 105, 106, 107, 108, 109, 110, 111, 112, 113]
abbrev ErrU (ad : Nat → Addr) (g : World) : Prop := Errs upCodes ad g.heap.size g
theorem Errs.uV (h : ErrU ad g) : ErrV ad g := Errs.sub h (fun c hc => by simp only [viewCodes, upCodes, List.mem_cons, List.not_mem_nil, or_false] at *; omega)
theorem Errs.uK (h : ErrU ad g) : ErrK ad g := Errs.sub h (fun c hc => by simp only [zF9, upCodes, List.mem_cons, List.not_mem_nil, or_false] at *; omega)
theorem Errs.uM (h : ErrU ad g) : ErrM ad g := Errs.sub h (fun c hc => by simp only [mlogCodes, upCodes, List.mem_cons, List.not_mem_nil, or_false] at *; omega)
theorem Errs.uG (h : ErrU ad g) : ErrG ad g := Errs.sub h (fun c hc => by simp only [zC1, upCodes, List.mem_cons, List.not_mem_nil, or_false] at *; omega)
theorem Errs.uJ (h : ErrU ad g) : ErrJ ad g := Errs.sub h (fun c hc => by simp only [jourCodes, upCodes, List.mem_cons, List.not_mem_nil, or_false] at *; omega)
set_option maxHeartbeats 1000000 in
theorem object_sl (hE : ErrU ad g) {t : UpT} {id : Int} {k done tr ak : Nat} {x : List UInt8 × SA} {o : Ob} (hx : t.xs[k]? = some x) (ho : t.m.obs[k]? = some o) {R : Int → Nat → Bool → Nat → St → Nat → Prop}
    (hP : ∀ {w : World} {M : List HP} {ba : Option Addr} {c : Nat}, Mem g w (zBf t.c p ((tr : Nat) : Int) ((ak : Nat) : Int) :: zB8 p st :: M) → Rd g M (.slice ba x.1.length c) (zAm x.1) → Calls Tryz.prog 99 #[.pointer (some ⟨t.c, 0, none⟩), .agg (zEi t.each o x.1).toArray, .slice ba x.1.length c, .int .i64 id, .int .i64 (done : Nat)] w (Ret fun v w' => ∃ (id' : Int) (done' : Nat) (is : Bool) (y : Nat) (st' : St) (a' : Nat), v = .tuple #[.int .i64 id', .int .i64 (done' : Nat), .bool is, zAh ad y] ∧ R id' done' is y st' a' ∧ Mem g w' (zBf t.c p ((tr : Nat) : Int) ((a' : Nat) : Int) :: zB8 p st' :: M)))
    (hRc : ∀ id' done' is y st' a', R id' done' is y st' a' → (y = 0 ∨ y = 111) ∧ (is = false → 0 ≤ id' ∧ id' ≤ 2147483647 ∧ done' ≤ 2147483647))
    (hid : 0 ≤ t.m.id ∧ t.m.id ≤ 2147483647) (hk : k < 1000) (hcl : dk.calls < 900000)
    {J : S4 → Nat → Dk → Prop} (hJ : ∀ s : S4, (s4L s).all inR = true → ∃ j e, dk.jwrite (s4L s) = (j, e) ∧ (j = 0 ∨ j = 110) ∧ J s j e)
    (hs : Mem g w (UpC u t (t.m.id, (k : Int), id, (done : Int)) false :: zBf t.c p ((tr : Nat) : Int) ((ak : Nat) : Int) :: zB8 p st :: zBc t.d dk :: L)) :
    Calls Tryz.prog 53 #[.pointer (some ⟨u, 0, none⟩)] w (Ret fun v w' => ∃ (id' : Int) (done' : Nat) (is : Bool) (y : Nat) (st' : St) (a' : Nat), R id' done' is y st' a' ∧
      ((y ≠ 0 ∧ v = zAh ad y ∧ Mem g w' (UpC u t (t.m.id, (k : Int), id, (done : Int)) false :: zBf t.c p ((tr : Nat) : Int) ((a' : Nat) : Int) :: zB8 p st' :: zBc t.d dk :: L)) ∨
       (y = 0 ∧ ∃ s j e, s = (if is = true then ((t.m.id, ((k + 1 : Nat) : Int), 0, 0) : S4) else (t.m.id, (k : Int), id', (done' : Int))) ∧ J s j e ∧ dk.jwrite (s4L s) = (j, e) ∧ (s4L s).all inR = true ∧ v = zAh ad j ∧ Mem g w' (UpC u t (if j = 0 then s else (t.m.id, (k : Int), id, (done : Int))) false :: zBf t.c p ((tr : Nat) : Int) ((a' : Nat) : Int) :: zB8 p st' :: zBc t.d e :: L)))) := by
  obtain ⟨td, tl, tc, tm, s1, s2, te, xs, ⟨a3, c3⟩, ⟨a4, c4⟩⟩ := t; simp only at hx ho hid hP; have hs := hs.openUp; simp only at hs; have hkx : k < xs.length := (List.getElem?_eq_some_iff.1 hx).1; have hko : k < tm.obs.length := (List.getElem?_eq_some_iff.1 ho).1; have hpl := plansL_at (each := te) ho hx; obtain ⟨bp, op, rfl⟩ := (RdK.row 4 rfl : RdK g _ 5 (.slice a4 xs.length c4) (zC9 te tm.obs xs)).at hs (by rw [zC9, List.length_map, List.length_zip]; omega); obtain ⟨bb, ob, rfl, _⟩ := hs.ownCells 3 rfl (by rw [List.length_map]; omega)
  have hvb : (xs.map bV)[k]? = some (.slice x.2.1 x.1.length x.2.2) := by rw [List.getElem?_map, hx]; rfl
  refine zAf Tryz.func53 rfl rfl ?_
  skip
  refine zA3 (zA1 ?_); refine zA rfl (zA0 (v := .nilIface) rfl) ?_; refine zA6 (zA3 (zA1 ?_)); refine zA rfl (zA2 (v := .pointer (some _)) rfl) ?_; refine zA rfl (zA8 rfl) ?_; refine zA rfl (zA4 (o' := 11) zCx rfl zDs rfl rfl rfl) ?_; refine zA rfl (zBy hs 0 (s4V (tm.id, (k : Int), id, (done : Int))) rfl zCy zDs rfl rfl) ?_; refine zBn hs rfl ze103 ?_; clear hs; intro b3 w hs
  try simp only [zzs, zzz] at hs
  refine zAn hs 0 rfl rfl rfl zDs rfl rfl ?_; clear hs; intro w hs
  try simp only [zzs, zzz] at hs
  refine zA6 (zA3 (zA1 ?_)); refine zA rfl (zA4 (o' := 1) zCy rfl sz3 rfl rfl rfl) ?_; refine zA rfl (zA7 uz3 rfl rfl (hs.cellAt 0 rfl rfl)) ?_; refine zA rfl (zA0 (v := .int .i64 _) rfl) ?_; refine zA6 ?_; refine zA3 ?_; refine zAp zBk ((hs.drop 8).drop 7) ?_; intro w tr hK; replace hs := tr _ hs; clear tr; refine zA5 0 rfl rfl (fun w hs => zA2 (v := .pointer (some _)) rfl) hK ?_; refine zA5 1 rfl rfl (fun w hs => zA8 rfl) hK ?_; refine zA5 2 rfl rfl (fun w hs => zA4 (o' := 2) zCx rfl sz33 rfl rfl rfl) hK ?_; refine zA5 3 rfl rfl (fun w hs => zA7 uz33 rfl rfl (hs.cellAt 1 rfl rfl)) hK ?_; refine zA5 4 rfl rfl (fun w hs => zA2 (v := .pointer (some _)) rfl) hK ?_
  refine zA5 5 rfl rfl (fun w hs => zA8 rfl) hK ?_; refine zA5 6 rfl rfl (fun w hs => zA4 (o' := 10) zCx rfl sz104 rfl rfl rfl) hK ?_; refine zA5 7 rfl rfl (fun w hs => zA7 zDc rfl rfl (hs.cellAt 1 rfl rfl)) hK ?_; refine zA5 8 rfl rfl (fun w hs => zA2 (v := .int .i64 _) rfl) hK ?_; refine zA5 9 rfl rfl (fun w hs => zAs zDc zG3 rfl rfl rfl (by omega) rfl) hK ?_; refine zA5 10 rfl rfl (fun w hs => zCo (cs := zEi te o x.1) zE zG3 rfl (fun j v hj => (RdK.row (k := 5) (v := .slice (some ⟨bp, op, none⟩) xs.length c4) (rows := zC9 te tm.obs xs) 5 rfl).cell hs hpl hj)) hK ?_; refine zA5 11 rfl rfl (fun w hs => zA2 (v := .pointer (some _)) rfl) hK ?_
  refine zA5 12 rfl rfl (fun w hs => zA8 rfl) hK ?_; refine zA5 13 rfl rfl (fun w hs => zA4 (o' := 9) zCx rfl sz62 rfl rfl rfl) hK ?_; refine zA5 14 rfl rfl (fun w hs => zA7 zG1 rfl rfl (hs.cellAt 1 rfl rfl)) hK ?_; refine zA5 15 rfl rfl (fun w hs => zA2 (v := .int .i64 _) rfl) hK ?_; refine zA5 16 rfl rfl (fun w hs => zBb zG1 sz22 rfl rfl rfl (by omega) rfl) hK ?_; refine zA5 17 rfl rfl (fun w hs => zA7 zCk rfl rfl (hs.ownAt 4 rfl hvb)) hK ?_; refine zA5 18 rfl rfl (fun w hs => zA4 (o' := 2) zCy rfl sz3 rfl rfl rfl) hK ?_; refine zA5 19 rfl rfl (fun w hs => zA7 uz3 rfl rfl (hs.cellAt 0 rfl rfl)) hK ?_; refine zA5 20 rfl rfl (fun w hs => zA4 (o' := 3) zCy rfl sz3 rfl rfl rfl) hK ?_
  refine zA5 21 rfl rfl (fun w hs => zA7 uz3 rfl rfl (hs.cellAt 0 rfl rfl)) hK ?_; refine zAe [22] ?_; refine ⟨⟨_, rfl, ?_⟩, trivial⟩; refine zAb rfl en99 (hP (hs.arr [7, 8, 0, 1, 2, 3, 4, 5, 6, 9] 10 (by decide)) (Rd.blob 6 rfl hx)) ?_; clear hs; rintro _ w ⟨id2, dn2, is2, y2, st2, a2, rfl, hR, hs⟩; clear hK; have hK := (hs.suffix 2 rfl); refine zA6 ⟨hK, ?_⟩; refine zA5 23 rfl rfl (fun w hs => zA2 (v := .tuple _) rfl) hK ?_; refine zA5 24 rfl rfl (fun w hs => zAa (v := .int .i64 _) rfl rfl) hK ?_; refine zA5 25 rfl rfl (fun w hs => zAa (v := .int .i64 _) rfl rfl) hK ?_; refine zA5 26 rfl rfl (fun w hs => zAa (v := .bool _) rfl rfl) hK ?_
  refine zA5 27 rfl rfl (fun w hs => zAa (v := zAh ad _) rfl rfl) hK ?_; refine zA5 28 rfl rfl (fun w hs => zA0 (v := .int .i64 _) rfl) hK ?_; refine zA5 29 rfl rfl (fun w hs => zA0 (v := .int .i64 _) rfl) hK ?_; refine zA5 30 rfl rfl (fun w hs => zA0 (v := .bool _) rfl) hK ?_; refine zA5 31 rfl rfl (fun w hs => zA0 (v := zAh ad _) rfl) hK ?_; refine zAr (by kernel_rfl) ?_; clear hK; refine zA3 ?_; refine zA3 (zA1 ?_); refine zA rfl (zA2 (v := zAh ad _) rfl) ?_; refine zA rfl (zAx (ad := ad) rfl) ?_; refine zA6 ?_; refine zB rfl ?_ ?_
  ·
   intro h45; have g45 := zEt h45; refine zA3 (zA1 ?_); refine zA rfl (zA2 (v := zAh ad _) rfl) ?_; refine zA rfl (zA0 (v := zAh ad _) rfl) ?_; refine zA6 ?_; refine zAc ?_; refine zBd (v := zAh ad _) rfl rfl ?_; exact ⟨_, rfl, id2, dn2, is2, y2, st2, a2, hR, .inl ⟨g45, rfl, Mem.closeUp (hs.arr [3, 4, 5, 6, 7, 8, 0, 1, 9] 10 (by decide))⟩⟩
  ·
   intro h45; have g45 := zEs h45
   have hy0 : y2 = 0 := by simpa using h45
   subst hy0; obtain ⟨hr1, hr2⟩ := hRc _ _ _ _ _ _ hR; refine zAd ?_; refine zA3 ?_; refine zA3 (zA1 ?_); refine zA rfl (zA2 (v := .int .i64 _) rfl) ?_; refine zA rfl (zA2 (v := .int .i64 _) rfl) ?_; refine zA rfl (zA4 (o' := 2) zCy rfl sz3 rfl rfl rfl) ?_; refine zB5 (v := .int .i64 _) hs 2 rfl sz3 rfl rfl rfl rfl ?_; clear hs; intro w hs
   try simp only [zzs, zzz] at hs
   refine zA rfl (zA4 (o' := 3) zCy rfl sz3 rfl rfl rfl) ?_; refine zB5 (v := .int .i64 _) hs 2 rfl sz3 rfl rfl rfl rfl ?_; clear hs; intro w hs
   try simp only [zzs, zzz] at hs
   refine zA6 (zA3 (zA1 ?_)); refine zA rfl (zA2 (v := .bool _) rfl) ?_; refine zA6 ?_; refine zB rfl ?_ ?_
   ·
    intro h42; refine zA1 ?_; refine zA rfl (zA2 (v := .int .i64 _) rfl) ?_; refine zA rfl (zAu rfl rfl (c := ((k + 1 : Nat) : Int)) (by first | rfl | (simp only; omega)) (inI (by omega) (by omega))) ?_; refine zA rfl (zA4 (o' := 1) zCy rfl sz3 rfl rfl rfl) ?_; refine zB5 (v := .int .i64 _) hs 2 rfl sz3 rfl rfl rfl rfl ?_; clear hs; intro w hs
    try simp only [zzs, zzz] at hs
    refine zA rfl (zA4 (o' := 2) zCy rfl sz3 rfl rfl rfl) ?_; refine zB5 (v := .int .i64 _) hs 2 rfl sz3 rfl rfl rfl rfl ?_; clear hs; intro w hs
    try simp only [zzs, zzz] at hs
    refine zA rfl (zA4 (o' := 3) zCy rfl sz3 rfl rfl rfl) ?_; refine zB5 (v := .int .i64 _) hs 2 rfl sz3 rfl rfl rfl rfl ?_; clear hs; intro w hs
    try simp only [zzs, zzz] at hs
    refine zA6 ?_; refine zA3 ?_; refine zA3 ?_; replace hs : Mem g w (zBf tc p ((tr : Nat) : Int) ((a2 : Nat) : Int) :: zB8 p st2 :: cells b3 (s4V (tm.id, ((k + 1 : Nat) : Int), 0, 0)) 103 :: ucO u ⟨td, tl, tc, tm, s1, s2, te, xs, (some ⟨bb, ob, none⟩, c3), (some ⟨bp, op, none⟩, c4)⟩ (tm.id, (k : Int), id, (done : Int)) false (zBc td dk :: L)) := hs; obtain ⟨jr, de, hjw, hjc, hJS⟩ := hJ (tm.id, ((k + 1 : Nat) : Int), 0, 0) (by simp only [s4L, inR, List.all_cons, List.all_nil, Bool.and_true, Bool.and_eq_true, decide_eq_true_eq]; omega); refine zAp zBk (hs.drop 9) ?_; intro w tr hK; replace hs := tr _ hs; clear tr; refine zA5 0 rfl rfl (fun w hs => zA2 (v := .pointer (some _)) rfl) hK ?_
    refine zA5 1 rfl rfl (fun w hs => zA8 rfl) hK ?_; refine zA5 2 rfl rfl (fun w hs => zA4 (o' := 0) zCx rfl sz25 rfl rfl rfl) hK ?_; refine zA5 3 rfl rfl (fun w hs => zA7 uz25 rfl rfl (hs.cellAt 3 rfl rfl)) hK ?_; refine zA5 4 rfl rfl (fun w hs => zBa hs 2 rfl zCy zDs rfl) hK ?_; refine zAe [5] ?_; refine ⟨⟨_, rfl, ?_⟩, trivial⟩; refine zAb rfl en100 (jwrite_sl hE.uJ hcl (hs.arr [9, 0, 1, 2, 3, 4, 5, 6, 7, 8] 10 (by decide)) (x0 := tm.id) (x1 := ((k + 1 : Nat) : Int)) (x2 := 0) (x3 := 0) (inI (by omega) (by omega)) (inI (by omega) (by omega)) (inI (by omega) (by omega)) (inI (by omega) (by omega)) hjw) ?_; clear hs; rintro _ w ⟨rfl, hs⟩; clear hK; have hK := hs.suffix 1 rfl
    refine zA6 ⟨hK, ?_⟩; refine zA5 6 rfl rfl (fun w hs => zA0 (v := zAh ad _) rfl) hK ?_; refine zAr (by kernel_rfl) ?_; clear hK; refine zA3 (zA1 ?_); refine zA rfl (zA2 (v := zAh ad _) rfl) ?_; refine zA rfl (zAx (ad := ad) rfl) ?_; refine zA6 ?_; refine zB rfl ?_ ?_
    ·
     intro h64; have g64 := zEt h64; refine zA3 (zA1 ?_); refine zA rfl (zA2 (v := zAh ad _) rfl) ?_; refine zA rfl (zA0 (v := zAh ad _) rfl) ?_; refine zA6 ?_; refine zAc ?_; refine zBd (v := zAh ad _) rfl rfl ?_; exact ⟨_, rfl, id2, dn2, is2, 0, st2, a2, hR, .inr ⟨rfl, (tm.id, ((k + 1 : Nat) : Int), 0, 0), jr, de, by rw [if_pos h42], hJS, hjw, by simp only [s4L, inR, List.all_cons, List.all_nil, Bool.and_true, Bool.and_eq_true, decide_eq_true_eq]; omega, rfl, by rw [if_neg g64]; exact Mem.closeUp (hs.arr [4, 5, 6, 7, 8, 9, 1, 2, 0] 10 (by decide))⟩⟩
    ·
     intro h64; have g64 := zEs h64; refine zAd ?_; refine zA3 (zA1 ?_); refine zA rfl (zA2 (v := .pointer (some _)) rfl) ?_; refine zA rfl (zBa hs 3 rfl zCy zDs rfl) ?_; refine zA rfl (zA8 rfl) ?_; refine zA rfl (zA4 (o' := 11) zCx rfl zDs rfl rfl rfl) ?_; refine lw_storeMid hs 4 (upL ⟨td, tl, tc, tm, s1, s2, te, xs, (some ⟨bb, ob, none⟩, c3), (some ⟨bp, op, none⟩, c4)⟩ (tm.id, ((k + 1 : Nat) : Int), 0, 0) false) rfl rfl rfl zDs rfl rfl rfl ?_; clear hs; intro w hs
     try simp only [zzs, zzz] at hs
     refine zA6 (zA3 (zA1 ?_)); refine zA rfl (zA0 (v := .nilIface) rfl) ?_; refine zA6 ?_; refine zAc ?_; refine zBd (v := .nilIface) rfl rfl ?_
     have hj0 : jr = 0 := by simpa using h64
     subst hj0; exact ⟨_, rfl, id2, dn2, is2, 0, st2, a2, hR, .inr ⟨rfl, (tm.id, ((k + 1 : Nat) : Int), 0, 0), 0, de, by rw [if_pos h42], hJS, hjw, by simp only [s4L, inR, List.all_cons, List.all_nil, Bool.and_true, Bool.and_eq_true, decide_eq_true_eq]; omega, (zAz ad).symm, by rw [if_pos rfl]; exact Mem.closeUp (hs.arr [4, 5, 6, 7, 8, 9, 1, 2, 0] 10 (by decide))⟩⟩
   ·
    intro h42; refine zAd ?_; refine zA3 ?_; refine zA3 ?_; obtain ⟨hr3, hr4, hr5⟩ := hr2 h42; replace hs : Mem g w (zBf tc p ((tr : Nat) : Int) ((a2 : Nat) : Int) :: zB8 p st2 :: cells b3 (s4V (tm.id, (k : Int), id2, (dn2 : Int))) 103 :: ucO u ⟨td, tl, tc, tm, s1, s2, te, xs, (some ⟨bb, ob, none⟩, c3), (some ⟨bp, op, none⟩, c4)⟩ (tm.id, (k : Int), id, (done : Int)) false (zBc td dk :: L)) := hs; obtain ⟨jr, de, hjw, hjc, hJS⟩ := hJ (tm.id, (k : Int), id2, (dn2 : Int)) (by simp only [s4L, inR, List.all_cons, List.all_nil, Bool.and_true, Bool.and_eq_true, decide_eq_true_eq]; omega); refine zAp zBk (hs.drop 9) ?_; intro w tr hK; replace hs := tr _ hs; clear tr
    refine zA5 0 rfl rfl (fun w hs => zA2 (v := .pointer (some _)) rfl) hK ?_; refine zA5 1 rfl rfl (fun w hs => zA8 rfl) hK ?_; refine zA5 2 rfl rfl (fun w hs => zA4 (o' := 0) zCx rfl sz25 rfl rfl rfl) hK ?_; refine zA5 3 rfl rfl (fun w hs => zA7 uz25 rfl rfl (hs.cellAt 3 rfl rfl)) hK ?_; refine zA5 4 rfl rfl (fun w hs => zBa hs 2 rfl zCy zDs rfl) hK ?_; refine zAe [5] ?_; refine ⟨⟨_, rfl, ?_⟩, trivial⟩; refine zAb rfl en100 (jwrite_sl hE.uJ hcl (hs.arr [9, 0, 1, 2, 3, 4, 5, 6, 7, 8] 10 (by decide)) (x0 := tm.id) (x1 := (k : Int)) (x2 := id2) (x3 := (dn2 : Int)) (inI (by omega) (by omega)) (inI (by omega) (by omega)) (inI (by omega) (by omega)) (inI (by omega) (by omega)) hjw) ?_
    clear hs; rintro _ w ⟨rfl, hs⟩; clear hK; have hK := hs.suffix 1 rfl; refine zA6 ⟨hK, ?_⟩; refine zA5 6 rfl rfl (fun w hs => zA0 (v := zAh ad _) rfl) hK ?_; refine zAr (by kernel_rfl) ?_; clear hK; refine zA3 (zA1 ?_); refine zA rfl (zA2 (v := zAh ad _) rfl) ?_; refine zA rfl (zAx (ad := ad) rfl) ?_; refine zA6 ?_; refine zB rfl ?_ ?_
    ·
     intro h64; have g64 := zEt h64; refine zA3 (zA1 ?_); refine zA rfl (zA2 (v := zAh ad _) rfl) ?_; refine zA rfl (zA0 (v := zAh ad _) rfl) ?_; refine zA6 ?_; refine zAc ?_; refine zBd (v := zAh ad _) rfl rfl ?_; exact ⟨_, rfl, id2, dn2, is2, 0, st2, a2, hR, .inr ⟨rfl, (tm.id, (k : Int), id2, (dn2 : Int)), jr, de, by rw [if_neg (by rw [h42]; decide)], hJS, hjw, by simp only [s4L, inR, List.all_cons, List.all_nil, Bool.and_true, Bool.and_eq_true, decide_eq_true_eq]; omega, rfl, by rw [if_neg g64]; exact Mem.closeUp (hs.arr [4, 5, 6, 7, 8, 9, 1, 2, 0] 10 (by decide))⟩⟩
    ·
     intro h64; have g64 := zEs h64; refine zAd ?_; refine zA3 (zA1 ?_); refine zA rfl (zA2 (v := .pointer (some _)) rfl) ?_; refine zA rfl (zBa hs 3 rfl zCy zDs rfl) ?_; refine zA rfl (zA8 rfl) ?_; refine zA rfl (zA4 (o' := 11) zCx rfl zDs rfl rfl rfl) ?_; refine lw_storeMid hs 4 (upL ⟨td, tl, tc, tm, s1, s2, te, xs, (some ⟨bb, ob, none⟩, c3), (some ⟨bp, op, none⟩, c4)⟩ (tm.id, (k : Int), id2, (dn2 : Int)) false) rfl rfl rfl zDs rfl rfl rfl ?_; clear hs; intro w hs
     try simp only [zzs, zzz] at hs
     refine zA6 (zA3 (zA1 ?_)); refine zA rfl (zA0 (v := .nilIface) rfl) ?_; refine zA6 ?_; refine zAc ?_; refine zBd (v := .nilIface) rfl rfl ?_
     have hj0 : jr = 0 := by simpa using h64
     subst hj0; exact ⟨_, rfl, id2, dn2, is2, 0, st2, a2, hR, .inr ⟨rfl, (tm.id, (k : Int), id2, (dn2 : Int)), 0, de, by rw [if_neg (by rw [h42]; decide)], hJS, hjw, by simp only [s4L, inR, List.all_cons, List.all_nil, Bool.and_true, Bool.and_eq_true, decide_eq_true_eq]; omega, (zAz ad).symm, by rw [if_pos rfl]; exact Mem.closeUp (hs.arr [4, 5, 6, 7, 8, 9, 1, 2, 0] 10 (by decide))⟩⟩
end
section
open Go.RowKit
attribute [local irreducible] zAh eV
variable {g w : World} {L M : List HP} {ad : Nat → Addr} {p u ev n q c : Nat} {dk : Dk} {st : St} {t : UpT} {a : S4} {ov : Bool} {V : Vw}
theorem step_over (hs : Mem g w (UpC u t a true :: zDl t.l t.d ev V q c n :: L)) : Calls Tryz.prog 16 #[.pointer (some ⟨u, 0, none⟩)] w (Ret fun v w' => v = .tuple #[.bool true, .nilIface] ∧ Mem g w' (UpC u t a true :: zDl t.l t.d ev V q c n :: L)) := by
  replace hs := hs.openUp; refine zAf Tryz.func16 rfl rfl ?_
  skip
  refine zA3 (zA1 ?_); refine zA rfl (zA0 (v := .bool _) rfl) ?_; refine zA rfl (zA0 (v := .nilIface) rfl) ?_; refine zA6 ?_; refine cw_scope ?_; refine zA3 ?_; refine cw_label ?_; refine zA3 ?_; refine zAo ?_; refine zBr (X := Unit) [2, 3, 4, 5, 6, 7, 8, 9, 10, 11, 12, 13, 14, 15, 16, 17, 18, 19, 20, 21, 22, 23, 24, 25, 26, 27, 28, 29, 30, 31, 32, 33, 34, 35, 36, 37, 38, 39, 40, 41, 42, 43, 44, 45, 46, 47, 48, 49, 50, 51, 52, 53, 54, 55, 56, 57, 58, 59, 60, 61, 62, 63, 64, 65, 66, 67, 68, 69, 70, 71, 72, 73] (fun _ => []) (fun _ w => Mem g w (ucO u t a true (zDl t.l t.d ev V q c n :: L))) (fun _ => 0) (()) ?_ ?_ ?_
  · exact trivial
  · exact hs
  clear hs; rintro x ξ w hI; have hs := hI; refine zAo ?_; refine zA3 ?_; refine zA3 ?_; refine zAp zBk hs ?_; intro w tr hK; replace hs := tr _ hs; clear tr; refine zA5 0 rfl rfl (fun w hs => zA2 (v := .pointer (some _)) rfl) hK ?_; refine zA5 1 rfl rfl (fun w hs => zA8 rfl) hK ?_; refine zA5 2 rfl rfl (fun w hs => zA4 (o' := 1) zCx rfl sz32 rfl rfl rfl) hK ?_; refine zA5 3 rfl rfl (fun w hs => zA7 uz32 rfl rfl (hs.cellAt 0 rfl rfl)) hK ?_; refine zA5 5 rfl rfl (fun w hs => zA2 (v := .pointer (some _)) rfl) hK ?_; refine zA5 6 rfl rfl (fun w hs => zA8 rfl) hK ?_; refine zA5 7 rfl rfl (fun w hs => zA4 (o' := 3) zCx rfl zF2 rfl rfl rfl) hK ?_
  refine zA5 8 rfl rfl (fun w hs => zA4 zCb rfl sz3 rfl rfl rfl) hK ?_; refine zA5 9 rfl rfl (fun w hs => zA7 uz3 rfl rfl (hs.cellAt 0 rfl rfl)) hK ?_; refine zAe [4] ?_; refine ⟨⟨_, rfl, ?_⟩, trivial⟩; refine zAb rfl en19 (zG4 (hs.arr [6, 0, 1, 2, 3, 4, 5] 7 (by decide))) ?_; clear hs; rintro _ w ⟨v11, rfl, hs⟩; clear hK; have hK := hs.arr [2, 3, 4, 5, 6, 7, 1] 8 (by decide); refine zA6 ⟨hK, ?_⟩; refine zAe [10] ?_; refine ⟨⟨_, rfl, ?_⟩, trivial⟩; refine zAb rfl en20 (zFd hs t.m.id) ?_; clear hs; rintro _ w ⟨rfl, hs⟩; clear hK; have hK := hs.arr [2, 3, 4, 5, 6, 7, 1] 8 (by decide); refine zA6 ⟨hK, ?_⟩; refine zA5 11 rfl rfl (fun w hs => zA0 (v := .int .i64 _) rfl) hK ?_
  refine zAr (by kernel_rfl) ?_; clear hK; refine zAo ?_; refine zA3 (zA1 ?_); refine zA rfl (zA2 (v := .pointer (some _)) rfl) ?_; refine zA rfl (zA8 rfl) ?_; refine zA rfl (zA4 (o' := 15) zCx rfl sz4 rfl rfl rfl) ?_; refine zA rfl (zA7 uz4 rfl rfl (hs.cellAt 2 rfl rfl)) ?_; refine zA rfl (zA0 (v := .bool _) rfl) ?_; refine zA6 ?_; refine zB6 rfl (rfl) ?_; refine zBp rfl ?_; refine zA3 (zA1 ?_); refine zA rfl (zA0 (v := .bool _) rfl) ?_; refine zA rfl (zA0 (v := .nilIface) rfl) ?_; refine zA6 ?_; refine zAc ?_; refine zDz (v := .bool _) (v2 := .nilIface) rfl rfl rfl ?_; exact ⟨_, rfl, rfl, Mem.closeUp (hs.arr [2, 3, 4, 5, 6, 7, 1] 8 (by decide))⟩
theorem step_first {R : Nat → Dk → Vw → Nat → Nat → Nat → Prop} (hst : V.state t.m.id = 0)
    (hA : ∀ {w : World} {M : List HP}, Mem g w (zDl t.l t.d ev V q c n :: zBc t.d dk :: M) → MfR g M t.m t.s1 t.s2 → Calls Tryz.prog 52 #[.pointer (some ⟨t.l, 0, none⟩), .agg (.int .i64 1 :: mfL t.m t.s1 t.s2).toArray] w (Ret fun v w' => ∃ kr dk2 V' q' c' n', v = zAh ad kr ∧ R kr dk2 V' q' c' n' ∧ Mem g w' (zDl t.l t.d ev V' q' c' n' :: zBc t.d dk2 :: M)))
    (hs : Mem g w (UpC u t a false :: zDl t.l t.d ev V q c n :: zBc t.d dk :: L)) : Calls Tryz.prog 16 #[.pointer (some ⟨u, 0, none⟩)] w (Ret fun v w' => ∃ kr dk2 V' q' c' n', v = .tuple #[.bool false, zAh ad kr] ∧ R kr dk2 V' q' c' n' ∧ Mem g w' (UpC u t a false :: zDl t.l t.d ev V' q' c' n' :: zBc t.d dk2 :: L)) := by
  replace hs := hs.openUp; refine zAf Tryz.func16 rfl rfl ?_
  skip
  refine zA3 (zA1 ?_); refine zA rfl (zA0 (v := .bool _) rfl) ?_; refine zA rfl (zA0 (v := .nilIface) rfl) ?_; refine zA6 ?_; refine cw_scope ?_; refine zA3 ?_; refine cw_label ?_; refine zA3 ?_; refine zAo ?_; refine zBr (X := Unit) [2, 3, 4, 5, 6, 7, 8, 9, 10, 11, 12, 13, 14, 15, 16, 17, 18, 19, 20, 21, 22, 23, 24, 25, 26, 27, 28, 29, 30, 31, 32, 33, 34, 35, 36, 37, 38, 39, 40, 41, 42, 43, 44, 45, 46, 47, 48, 49, 50, 51, 52, 53, 54, 55, 56, 57, 58, 59, 60, 61, 62, 63, 64, 65, 66, 67, 68, 69, 70, 71, 72, 73] (fun _ => []) (fun _ w => Mem g w (ucO u t a false (zDl t.l t.d ev V q c n :: zBc t.d dk :: L))) (fun _ => 0) (()) ?_ ?_ ?_
  · exact trivial
  · exact hs
  clear hs; rintro x ξ w hI; have hs := hI; refine zAo ?_; refine zA3 ?_; refine zA3 ?_; refine zAp zBk hs ?_; intro w tr hK; replace hs := tr _ hs; clear tr; refine zA5 0 rfl rfl (fun w hs => zA2 (v := .pointer (some _)) rfl) hK ?_; refine zA5 1 rfl rfl (fun w hs => zA8 rfl) hK ?_; refine zA5 2 rfl rfl (fun w hs => zA4 (o' := 1) zCx rfl sz32 rfl rfl rfl) hK ?_; refine zA5 3 rfl rfl (fun w hs => zA7 uz32 rfl rfl (hs.cellAt 0 rfl rfl)) hK ?_; refine zA5 5 rfl rfl (fun w hs => zA2 (v := .pointer (some _)) rfl) hK ?_; refine zA5 6 rfl rfl (fun w hs => zA8 rfl) hK ?_; refine zA5 7 rfl rfl (fun w hs => zA4 (o' := 3) zCx rfl zF2 rfl rfl rfl) hK ?_
  refine zA5 8 rfl rfl (fun w hs => zA4 zCb rfl sz3 rfl rfl rfl) hK ?_; refine zA5 9 rfl rfl (fun w hs => zA7 uz3 rfl rfl (hs.cellAt 0 rfl rfl)) hK ?_; refine zAe [4] ?_; refine ⟨⟨_, rfl, ?_⟩, trivial⟩; refine zAb rfl en19 (zG4 (hs.arr [6, 0, 1, 2, 3, 4, 5, 7] 8 (by decide))) ?_; clear hs; rintro _ w ⟨v11, rfl, hs⟩; clear hK; have hK := hs.arr [2, 3, 4, 5, 6, 7, 1, 8] 9 (by decide); refine zA6 ⟨hK, ?_⟩; refine zAe [10] ?_; refine ⟨⟨_, rfl, ?_⟩, trivial⟩; refine zAb rfl en20 (zFd hs t.m.id) ?_; clear hs; rintro _ w ⟨rfl, hs⟩; clear hK; have hK := hs.arr [2, 3, 4, 5, 6, 7, 1, 8] 9 (by decide); refine zA6 ⟨hK, ?_⟩; refine zA5 11 rfl rfl (fun w hs => zA0 (v := .int .i64 _) rfl) hK ?_
  refine zAr (by kernel_rfl) ?_; clear hK; refine zAo ?_; refine zA3 (zA1 ?_); refine zA rfl (zA2 (v := .pointer (some _)) rfl) ?_; refine zA rfl (zA8 rfl) ?_; refine zA rfl (zA4 (o' := 15) zCx rfl sz4 rfl rfl rfl) ?_; refine zA rfl (zA7 uz4 rfl rfl (hs.cellAt 2 rfl rfl)) ?_; refine zA rfl (zA0 (v := .bool _) rfl) ?_; refine zA6 ?_; refine zB4 rfl (rfl) ?_; refine zA3 (zA1 ?_); refine zA rfl (zA2 (v := .int .i64 _) rfl) ?_; refine zA rfl (zBo rfl rfl) ?_; refine zA rfl (zA0 (v := .bool _) rfl) ?_; refine zA6 ?_; refine zB6 rfl ((decide_eq_true hst)) ?_; refine zA3 ?_; replace hs := hs.arr [2, 3, 4, 5, 6, 7, 1, 8] 9 (by decide)
  replace hs : Mem g w (ucO u t a false (zDl t.l t.d ev V q c n :: zBc t.d dk :: L)) := hs; refine zAp zBk ((hs.drop 7).drop 6) ?_; intro w tr hK; replace hs := tr _ hs; clear tr; refine zA5 0 rfl rfl (fun w hs => zA2 (v := .pointer (some _)) rfl) hK ?_; refine zA5 1 rfl rfl (fun w hs => zA8 rfl) hK ?_; refine zA5 2 rfl rfl (fun w hs => zA4 (o' := 1) zCx rfl sz32 rfl rfl rfl) hK ?_; refine zA5 3 rfl rfl (fun w hs => zA7 uz32 rfl rfl (hs.cellAt 0 rfl rfl)) hK ?_; refine zA5 4 rfl rfl (fun w hs => zA2 (v := .pointer (some _)) rfl) hK ?_; refine zA5 5 rfl rfl (fun w hs => zA8 rfl) hK ?_; refine zA5 6 rfl rfl (fun w hs => zA4 (o' := 3) zCx rfl zF2 rfl rfl rfl) hK ?_
  refine zA5 7 rfl rfl (fun w hs => zBy hs 0 (mfL t.m t.s1 t.s2) rfl zCb zF2 rfl rfl) hK ?_; refine @zF7 _ _ _ _ _ _ _ _ _ _ _ _ _ _ 8 _ rfl (by kernel_rfl) (by kernel_rfl) (by kernel_rfl) rfl (fun w hs => zFe (k := 1) (m := t.m) (e := t.s1) (o := t.s2) zF0 ze121 pl121 rfl rfl) hK ?_; refine zAe [9] ?_; refine ⟨⟨_, rfl, ?_⟩, trivial⟩; refine zAb rfl en52 (hA (hs.arr [6, 7, 0, 1, 2, 3, 4, 5] 8 (by decide)) (MfR.own 1 2 rfl rfl)) ?_; clear hs; rintro _ w ⟨kr, dk2, V2, q2, c2, n2, rfl, hR, hs⟩; clear hK; have hK := hs.suffix 2 rfl; refine zA6 ⟨hK, ?_⟩; refine zA5 10 rfl rfl (fun w hs => zA0 (v := .bool _) rfl) hK ?_; refine zA5 11 rfl rfl (fun w hs => zA0 (v := zAh ad _) rfl) hK ?_
  refine zAr (by kernel_rfl) ?_; clear hK; refine zAc ?_; refine zDz (v := .bool _) (v2 := zAh ad _) rfl rfl rfl ?_; exact ⟨_, rfl, kr, dk2, V2, q2, c2, n2, rfl, hR, Mem.closeUp (hs.arr [2, 3, 4, 5, 6, 7, 0, 1] 8 (by decide))⟩
theorem step_obj (hE : ErrU ad g) {Q : Nat → World → Prop} (hst : V.state t.m.id ≠ 0) (ha : a.2.1 < (t.xs.length : Nat)) (hO : ∀ w, Mem g w (UpC u t a false :: zDl t.l t.d ev V q c n :: L) → Calls Tryz.prog 53 #[.pointer (some ⟨u, 0, none⟩)] w (Ret fun v w' => ∃ k, v = zAh ad k ∧ Q k w'))
    (hs : Mem g w (UpC u t a false :: zDl t.l t.d ev V q c n :: L)) : Calls Tryz.prog 16 #[.pointer (some ⟨u, 0, none⟩)] w (Ret fun v w' => ∃ k, v = .tuple #[.bool false, zAh ad k] ∧ Q k w') := by
  replace hs := hs.openUp; refine zAf Tryz.func16 rfl rfl ?_
  skip
  refine zA3 (zA1 ?_); refine zA rfl (zA0 (v := .bool _) rfl) ?_; refine zA rfl (zA0 (v := .nilIface) rfl) ?_; refine zA6 ?_; refine cw_scope ?_; refine zA3 ?_; refine cw_label ?_; refine zA3 ?_; refine zAo ?_; refine zBr (X := Unit) [2, 3, 4, 5, 6, 7, 8, 9, 10, 11, 12, 13, 14, 15, 16, 17, 18, 19, 20, 21, 22, 23, 24, 25, 26, 27, 28, 29, 30, 31, 32, 33, 34, 35, 36, 37, 38, 39, 40, 41, 42, 43, 44, 45, 46, 47, 48, 49, 50, 51, 52, 53, 54, 55, 56, 57, 58, 59, 60, 61, 62, 63, 64, 65, 66, 67, 68, 69, 70, 71, 72, 73] (fun _ => []) (fun _ w => Mem g w (ucO u t a false (zDl t.l t.d ev V q c n :: L))) (fun _ => 0) (()) ?_ ?_ ?_
  · exact trivial
  · exact hs
  clear hs; rintro x ξ w hI; have hs := hI; refine zAo ?_; refine zA3 ?_; refine zA3 ?_; refine zAp zBk hs ?_; intro w tr hK; replace hs := tr _ hs; clear tr; refine zA5 0 rfl rfl (fun w hs => zA2 (v := .pointer (some _)) rfl) hK ?_; refine zA5 1 rfl rfl (fun w hs => zA8 rfl) hK ?_; refine zA5 2 rfl rfl (fun w hs => zA4 (o' := 1) zCx rfl sz32 rfl rfl rfl) hK ?_; refine zA5 3 rfl rfl (fun w hs => zA7 uz32 rfl rfl (hs.cellAt 0 rfl rfl)) hK ?_; refine zA5 5 rfl rfl (fun w hs => zA2 (v := .pointer (some _)) rfl) hK ?_; refine zA5 6 rfl rfl (fun w hs => zA8 rfl) hK ?_; refine zA5 7 rfl rfl (fun w hs => zA4 (o' := 3) zCx rfl zF2 rfl rfl rfl) hK ?_
  refine zA5 8 rfl rfl (fun w hs => zA4 zCb rfl sz3 rfl rfl rfl) hK ?_; refine zA5 9 rfl rfl (fun w hs => zA7 uz3 rfl rfl (hs.cellAt 0 rfl rfl)) hK ?_; refine zAe [4] ?_; refine ⟨⟨_, rfl, ?_⟩, trivial⟩; refine zAb rfl en19 (zG4 (hs.arr [6, 0, 1, 2, 3, 4, 5] 7 (by decide))) ?_; clear hs; rintro _ w ⟨v11, rfl, hs⟩; clear hK; have hK := hs.arr [2, 3, 4, 5, 6, 7, 1] 8 (by decide); refine zA6 ⟨hK, ?_⟩; refine zAe [10] ?_; refine ⟨⟨_, rfl, ?_⟩, trivial⟩; refine zAb rfl en20 (zFd hs t.m.id) ?_; clear hs; rintro _ w ⟨rfl, hs⟩; clear hK; have hK := hs.arr [2, 3, 4, 5, 6, 7, 1] 8 (by decide); refine zA6 ⟨hK, ?_⟩; refine zA5 11 rfl rfl (fun w hs => zA0 (v := .int .i64 _) rfl) hK ?_
  refine zAr (by kernel_rfl) ?_; clear hK; refine zAo ?_; refine zA3 (zA1 ?_); refine zA rfl (zA2 (v := .pointer (some _)) rfl) ?_; refine zA rfl (zA8 rfl) ?_; refine zA rfl (zA4 (o' := 15) zCx rfl sz4 rfl rfl rfl) ?_; refine zA rfl (zA7 uz4 rfl rfl (hs.cellAt 2 rfl rfl)) ?_; refine zA rfl (zA0 (v := .bool _) rfl) ?_; refine zA6 ?_; refine zB4 rfl (rfl) ?_; refine zA3 (zA1 ?_); refine zA rfl (zA2 (v := .int .i64 _) rfl) ?_; refine zA rfl (zBo rfl rfl) ?_; refine zA rfl (zA0 (v := .bool _) rfl) ?_; refine zA6 ?_; refine zB4 rfl ((decide_eq_false hst)) ?_; refine zA3 ?_; replace hs := hs.arr [2, 3, 4, 5, 6, 7, 1] 8 (by decide)
  replace hs : Mem g w (ucO u t a false (zDl t.l t.d ev V q c n :: L)) := hs; refine zAp zBk hs ?_; intro w tr hK; replace hs := tr _ hs; clear tr; refine zA5 0 rfl rfl (fun w hs => zA2 (v := .pointer (some _)) rfl) hK ?_; refine zA5 1 rfl rfl (fun w hs => zA8 rfl) hK ?_; refine zA5 2 rfl rfl (fun w hs => zA4 (o' := 11) zCx rfl zDs rfl rfl rfl) hK ?_; refine zA5 3 rfl rfl (fun w hs => zA4 zCy rfl sz3 rfl rfl rfl) hK ?_; refine zA5 4 rfl rfl (fun w hs => zA7 uz3 rfl rfl (hs.cellAt 0 rfl rfl)) hK ?_; refine zA5 5 rfl rfl (fun w hs => zA2 (v := .pointer (some _)) rfl) hK ?_; refine zA5 6 rfl rfl (fun w hs => zA8 rfl) hK ?_
  refine zA5 7 rfl rfl (fun w hs => zA4 (o' := 10) zCx rfl sz104 rfl rfl rfl) hK ?_; refine zA5 8 rfl rfl (fun w hs => zA7 zDc rfl rfl (hs.cellAt 0 rfl rfl)) hK ?_; refine zA5 9 rfl rfl (fun w hs => zAt zDc rfl) hK ?_; refine zA5 10 rfl rfl (fun w hs => zB9 rfl rfl) hK ?_; refine zA5 11 rfl rfl (fun w hs => zA0 (v := .bool _) rfl) hK ?_; refine zAr (by kernel_rfl) ?_; clear hK; refine zB6 rfl ((decide_eq_true ha)) ?_; refine zA3 (zA1 ?_); refine zA rfl (zA2 (v := .pointer (some _)) rfl) ?_; refine zAb rfl en53 (hO _ (Mem.closeUp hs)) ?_; clear hs; rintro _ w ⟨kq, rfl, hQ⟩; refine zA rfl (zA0 (v := .bool _) rfl) ?_; refine zA rfl (zA0 (v := zAh ad _) rfl) ?_; refine zA6 ?_; refine zAc ?_
  refine zDz (v := .bool _) (v2 := zAh ad _) rfl rfl rfl ?_; exact ⟨_, rfl, _, rfl, hQ⟩
def LastI (g : World) (u : Nat) (t : UpT) (a : S4) (ev : Nat) (V : Vw) (q c n : Nat) (dk : Dk) (L : List HP) (R : Nat → Dk → Vw → Nat → Nat → Nat → Prop) (w : World) : Option (Dk × Vw × Nat × Nat × Nat) → Prop
  | none => Mem g w (ucO u t a false (zDl t.l t.d ev V q c n :: zBc t.d dk :: L))
  | some x => (∃ dk2, R 0 dk2 x.2.1 x.2.2.1 x.2.2.2.1 x.2.2.2.2 ∧ dk2.jremove = (0, x.1)) ∧ Mem g w (ucO u t a true (zDl t.l t.d ev x.2.1 x.2.2.1 x.2.2.2.1 x.2.2.2.2 :: zBc t.d x.1 :: L))
set_option maxHeartbeats 1000000 in
theorem step_last (hE : ErrU ad g) {R : Nat → Dk → Vw → Nat → Nat → Nat → Prop} (hst : V.state t.m.id ≠ 0) (ha : ¬ a.2.1 < (t.xs.length : Nat))
    (hA : ∀ {w : World} {M : List HP}, Mem g w (zDl t.l t.d ev V q c n :: zBc t.d dk :: M) → MfR g M t.m t.s1 t.s2 → Calls Tryz.prog 52 #[.pointer (some ⟨t.l, 0, none⟩), .agg (.int .i64 2 :: mfL t.m t.s1 t.s2).toArray] w (Ret fun v w' => ∃ kr dk2 V' q' c' n', v = zAh ad kr ∧ R kr dk2 V' q' c' n' ∧ Mem g w' (zDl t.l t.d ev V' q' c' n' :: zBc t.d dk2 :: M)))
    (hR : ∀ {kr dk2 V' q' c' n'}, R kr dk2 V' q' c' n' → dk2.calls < 900000)
    (hs : Mem g w (UpC u t a false :: zDl t.l t.d ev V q c n :: zBc t.d dk :: L)) : Calls Tryz.prog 16 #[.pointer (some ⟨u, 0, none⟩)] w (Ret fun v w' => ∃ kr dk2 V' q' c' n', R kr dk2 V' q' c' n' ∧
      ((kr ≠ 0 ∧ v = .tuple #[.bool false, zAh ad kr] ∧ Mem g w' (UpC u t a false :: zDl t.l t.d ev V' q' c' n' :: zBc t.d dk2 :: L)) ∨
       (kr = 0 ∧ ∃ j e, dk2.jremove = (j, e) ∧ v = .tuple #[.bool (decide (j = 0)), zAh ad j] ∧ Mem g w' (UpC u t a true :: zDl t.l t.d ev V' q' c' n' :: zBc t.d e :: L)))) := by
  replace hs := hs.openUp; refine zAf Tryz.func16 rfl rfl ?_
  skip
  refine zA3 (zA1 ?_); refine zA rfl (zA0 (v := .bool _) rfl) ?_; refine zA rfl (zA0 (v := .nilIface) rfl) ?_; refine zA6 ?_; refine cw_scope ?_; refine zA3 ?_; refine cw_label ?_; refine zA3 ?_; refine zAo ?_; refine zBr (X := Option (Dk × Vw × Nat × Nat × Nat)) [2, 3, 4, 5, 6, 7, 8, 9, 10, 11, 12, 13, 14, 15, 16, 17, 18, 19, 20, 21, 22, 23, 24, 25, 26, 27, 28, 29, 30, 31, 32, 33, 34, 35, 36, 37, 38, 39, 40, 41, 42, 43, 44, 45, 46, 47, 48, 49, 50, 51, 52, 53, 54, 55, 56, 57, 58, 59, 60, 61, 62, 63, 64, 65, 66, 67, 68, 69, 70, 71, 72, 73] (fun _ => []) (fun x w => LastI g u t a ev V q c n dk L R w x) (fun x => x.elim 1 (fun _ => 0)) (none) ?_ ?_ ?_
  · exact trivial
  · exact hs
  clear hs; rintro x ξ w hI; refine zAo ?_; refine zA3 ?_; refine zA3 ?_
  rcases x with _ | ⟨dx, Vx, qx, cx, nx⟩
  ·
   have hs : Mem g w (ucO u t a false (zDl t.l t.d ev V q c n :: zBc t.d dk :: L)) := hI; refine zAp zBk hs ?_; intro w tr hK; replace hs := tr _ hs; clear tr; refine zA5 0 rfl rfl (fun w hs => zA2 (v := .pointer (some _)) rfl) hK ?_; refine zA5 1 rfl rfl (fun w hs => zA8 rfl) hK ?_; refine zA5 2 rfl rfl (fun w hs => zA4 (o' := 1) zCx rfl sz32 rfl rfl rfl) hK ?_; refine zA5 3 rfl rfl (fun w hs => zA7 uz32 rfl rfl (hs.cellAt 0 rfl rfl)) hK ?_; refine zA5 5 rfl rfl (fun w hs => zA2 (v := .pointer (some _)) rfl) hK ?_; refine zA5 6 rfl rfl (fun w hs => zA8 rfl) hK ?_; refine zA5 7 rfl rfl (fun w hs => zA4 (o' := 3) zCx rfl zF2 rfl rfl rfl) hK ?_
   refine zA5 8 rfl rfl (fun w hs => zA4 zCb rfl sz3 rfl rfl rfl) hK ?_; refine zA5 9 rfl rfl (fun w hs => zA7 uz3 rfl rfl (hs.cellAt 0 rfl rfl)) hK ?_; refine zAe [4] ?_; refine ⟨⟨_, rfl, ?_⟩, trivial⟩; refine zAb rfl en19 (zG4 (hs.arr [6, 0, 1, 2, 3, 4, 5, 7] 8 (by decide))) ?_; clear hs; rintro _ w ⟨v11, rfl, hs⟩; clear hK; have hK := hs.arr [2, 3, 4, 5, 6, 7, 1, 8] 9 (by decide); refine zA6 ⟨hK, ?_⟩; refine zAe [10] ?_; refine ⟨⟨_, rfl, ?_⟩, trivial⟩; refine zAb rfl en20 (zFd hs t.m.id) ?_; clear hs; rintro _ w ⟨rfl, hs⟩; clear hK; have hK := hs.arr [2, 3, 4, 5, 6, 7, 1, 8] 9 (by decide); refine zA6 ⟨hK, ?_⟩; refine zA5 11 rfl rfl (fun w hs => zA0 (v := .int .i64 _) rfl) hK ?_
   refine zAr (by kernel_rfl) ?_; clear hK; refine zAo ?_; refine zA3 (zA1 ?_); refine zA rfl (zA2 (v := .pointer (some _)) rfl) ?_; refine zA rfl (zA8 rfl) ?_; refine zA rfl (zA4 (o' := 15) zCx rfl sz4 rfl rfl rfl) ?_; refine zA rfl (zA7 uz4 rfl rfl (hs.cellAt 2 rfl rfl)) ?_; refine zA rfl (zA0 (v := .bool _) rfl) ?_; refine zA6 ?_; refine zB4 rfl (rfl) ?_; refine zA3 (zA1 ?_); refine zA rfl (zA2 (v := .int .i64 _) rfl) ?_; refine zA rfl (zBo rfl rfl) ?_; refine zA rfl (zA0 (v := .bool _) rfl) ?_; refine zA6 ?_; refine zB4 rfl ((decide_eq_false hst)) ?_; refine zA3 ?_; replace hs := hs.arr [2, 3, 4, 5, 6, 7, 1, 8] 9 (by decide)
   replace hs : Mem g w (ucO u t a false (zDl t.l t.d ev V q c n :: zBc t.d dk :: L)) := hs; refine zAp zBk hs ?_; intro w tr hK; replace hs := tr _ hs; clear tr; refine zA5 0 rfl rfl (fun w hs => zA2 (v := .pointer (some _)) rfl) hK ?_; refine zA5 1 rfl rfl (fun w hs => zA8 rfl) hK ?_; refine zA5 2 rfl rfl (fun w hs => zA4 (o' := 11) zCx rfl zDs rfl rfl rfl) hK ?_; refine zA5 3 rfl rfl (fun w hs => zA4 zCy rfl sz3 rfl rfl rfl) hK ?_; refine zA5 4 rfl rfl (fun w hs => zA7 uz3 rfl rfl (hs.cellAt 0 rfl rfl)) hK ?_; refine zA5 5 rfl rfl (fun w hs => zA2 (v := .pointer (some _)) rfl) hK ?_; refine zA5 6 rfl rfl (fun w hs => zA8 rfl) hK ?_
   refine zA5 7 rfl rfl (fun w hs => zA4 (o' := 10) zCx rfl sz104 rfl rfl rfl) hK ?_; refine zA5 8 rfl rfl (fun w hs => zA7 zDc rfl rfl (hs.cellAt 0 rfl rfl)) hK ?_; refine zA5 9 rfl rfl (fun w hs => zAt zDc rfl) hK ?_; refine zA5 10 rfl rfl (fun w hs => zB9 rfl rfl) hK ?_; refine zA5 11 rfl rfl (fun w hs => zA0 (v := .bool _) rfl) hK ?_; refine zAr (by kernel_rfl) ?_; clear hK; refine zB4 rfl ((decide_eq_false ha)) ?_; refine zAd ?_; refine zA3 ?_; refine zA3 ?_; refine zAp zBk ((hs.drop 7).drop 6) ?_; intro w tr hK; replace hs := tr _ hs; clear tr; refine zA5 0 rfl rfl (fun w hs => zA2 (v := .pointer (some _)) rfl) hK ?_; refine zA5 1 rfl rfl (fun w hs => zA8 rfl) hK ?_
   refine zA5 2 rfl rfl (fun w hs => zA4 (o' := 1) zCx rfl sz32 rfl rfl rfl) hK ?_; refine zA5 3 rfl rfl (fun w hs => zA7 uz32 rfl rfl (hs.cellAt 0 rfl rfl)) hK ?_; refine zA5 4 rfl rfl (fun w hs => zA2 (v := .pointer (some _)) rfl) hK ?_; refine zA5 5 rfl rfl (fun w hs => zA8 rfl) hK ?_; refine zA5 6 rfl rfl (fun w hs => zA4 (o' := 3) zCx rfl zF2 rfl rfl rfl) hK ?_; refine zA5 7 rfl rfl (fun w hs => zBy hs 0 (mfL t.m t.s1 t.s2) rfl zCb zF2 rfl rfl) hK ?_; refine @zF7 _ _ _ _ _ _ _ _ _ _ _ _ _ _ 8 _ rfl (by kernel_rfl) (by kernel_rfl) (by kernel_rfl) rfl (fun w hs => zFe (k := 2) (m := t.m) (e := t.s1) (o := t.s2) zF0 ze121 pl121 rfl rfl) hK ?_; refine zAe [9] ?_
   refine ⟨⟨_, rfl, ?_⟩, trivial⟩; refine zAb rfl en52 (hA (hs.arr [6, 7, 0, 1, 2, 3, 4, 5] 8 (by decide)) (MfR.own 1 2 rfl rfl)) ?_; clear hs; rintro _ w ⟨kr, dk2, V2, q2, c2, n2, rfl, hR0, hs⟩; clear hK; have hK := hs.suffix 2 rfl; refine zA6 ⟨hK, ?_⟩; refine zA5 10 rfl rfl (fun w hs => zA0 (v := zAh ad _) rfl) hK ?_; refine zAr (by kernel_rfl) ?_; clear hK; refine zA3 (zA1 ?_); refine zA rfl (zA2 (v := zAh ad _) rfl) ?_; refine zA rfl (zAx (ad := ad) rfl) ?_; refine zA6 ?_; refine zB rfl ?_ ?_
   ·
    intro h61; have g61 := zEt h61; refine zA3 (zA1 ?_); refine zA rfl (zA2 (v := zAh ad _) rfl) ?_; refine zA rfl (zA0 (v := .bool _) rfl) ?_; refine zA rfl (zA0 (v := zAh ad _) rfl) ?_; refine zA6 ?_; refine zAc ?_; refine zDz (v := .bool _) (v2 := zAh ad _) rfl rfl rfl ?_; exact ⟨_, rfl, kr, dk2, V2, q2, c2, n2, hR0, .inl ⟨g61, rfl, Mem.closeUp (hs.arr [2, 3, 4, 5, 6, 7, 0, 1] 8 (by decide))⟩⟩
   ·
    intro h61; have g61 := zEs h61
    have hk0 : kr = 0 := by simpa using h61
    subst hk0; refine zAd ?_; refine zA3 (zA1 ?_); refine zA rfl (zA2 (v := .pointer (some _)) rfl) ?_; refine zA rfl (zA8 rfl) ?_; refine zA rfl (zA4 (o' := 15) zCx rfl sz4 rfl rfl rfl) ?_; refine zB5 (v := .bool _) hs 2 rfl sz4 rfl rfl rfl rfl ?_; clear hs; intro w hs
    try simp only [zzs, zzz] at hs
    refine zA6 ?_; refine zA3 ?_; obtain ⟨jr, de, hjr⟩ : ∃ jr de, dk2.jremove = (jr, de) := ⟨_, _, rfl⟩; refine zA1 ?_; refine zA rfl (zA2 (v := .pointer (some _)) rfl) ?_; refine zA rfl (zA8 rfl) ?_; refine zA rfl (zA4 (o' := 0) zCx rfl sz25 rfl rfl rfl) ?_; refine zA rfl (zA7 uz25 rfl rfl (hs.cellAt 2 rfl rfl)) ?_; refine zAb rfl en54 (jremove_sl hE.uK (hR hR0) (hs.arr [1, 0, 2, 3, 4, 5, 6, 7] 8 (by decide)) hjr) ?_; clear hs; rintro _ w ⟨rfl, hs⟩; refine zA rfl (zA0 (v := zAh ad _) rfl) ?_; refine zA6 (zA3 (zA1 ?_)); refine zA rfl (zA2 (v := zAh ad _) rfl) ?_; refine zA rfl (zAx (ad := ad) rfl) ?_; refine zA6 ?_; refine zB rfl ?_ ?_
    ·
     intro h72; have g72 := zEt h72; refine zA3 (zA1 ?_); refine zA rfl (zA2 (v := zAh ad _) rfl) ?_; refine zA rfl (zA0 (v := .bool _) rfl) ?_; refine zA rfl (zA0 (v := zAh ad _) rfl) ?_; refine zA6 ?_; refine zAc ?_; refine zDz (v := .bool _) (v2 := zAh ad _) rfl rfl rfl ?_; exact ⟨_, rfl, 0, dk2, V2, q2, c2, n2, hR0, .inr ⟨rfl, jr, de, hjr, by rw [decide_eq_false g72], Mem.closeUp (hs.arr [2, 3, 4, 5, 6, 7, 1, 0] 8 (by decide))⟩⟩
    ·
     intro h72; have g72 := zEs h72
     have hj0 : jr = 0 := by simpa using h72
     subst hj0; refine zAd ?_; exact ⟨some (de, V2, q2, c2, n2), (show (0 : Nat) < 1 by decide), ⟨⟨dk2, hR0, hjr⟩, hs.arr [2, 3, 4, 5, 6, 7, 1, 0] 8 (by decide)⟩, trivial, by repeat (first | exact Out.mix _ _ _ | refine Out.updo rfl ?_ | refine Out.upd rfl ?_ | refine Out.mixIn rfl ?_)⟩
  ·
   have hs : Mem g w (ucO u t a true (zDl t.l t.d ev Vx qx cx nx :: zBc t.d dx :: L)) := hI.2; have hI1 := hI.1; refine zAp zBk hs ?_; intro w tr hK; replace hs := tr _ hs; clear tr; refine zA5 0 rfl rfl (fun w hs => zA2 (v := .pointer (some _)) rfl) hK ?_; refine zA5 1 rfl rfl (fun w hs => zA8 rfl) hK ?_; refine zA5 2 rfl rfl (fun w hs => zA4 (o' := 1) zCx rfl sz32 rfl rfl rfl) hK ?_; refine zA5 3 rfl rfl (fun w hs => zA7 uz32 rfl rfl (hs.cellAt 0 rfl rfl)) hK ?_; refine zA5 5 rfl rfl (fun w hs => zA2 (v := .pointer (some _)) rfl) hK ?_; refine zA5 6 rfl rfl (fun w hs => zA8 rfl) hK ?_; refine zA5 7 rfl rfl (fun w hs => zA4 (o' := 3) zCx rfl zF2 rfl rfl rfl) hK ?_
   refine zA5 8 rfl rfl (fun w hs => zA4 zCb rfl sz3 rfl rfl rfl) hK ?_; refine zA5 9 rfl rfl (fun w hs => zA7 uz3 rfl rfl (hs.cellAt 0 rfl rfl)) hK ?_; refine zAe [4] ?_; refine ⟨⟨_, rfl, ?_⟩, trivial⟩; refine zAb rfl en19 (zG4 (hs.arr [6, 0, 1, 2, 3, 4, 5, 7] 8 (by decide))) ?_; clear hs; rintro _ w ⟨v11, rfl, hs⟩; clear hK; have hK := hs.arr [2, 3, 4, 5, 6, 7, 1, 8] 9 (by decide); refine zA6 ⟨hK, ?_⟩; refine zAe [10] ?_; refine ⟨⟨_, rfl, ?_⟩, trivial⟩; refine zAb rfl en20 (zFd hs t.m.id) ?_; clear hs; rintro _ w ⟨rfl, hs⟩; clear hK; have hK := hs.arr [2, 3, 4, 5, 6, 7, 1, 8] 9 (by decide); refine zA6 ⟨hK, ?_⟩; refine zA5 11 rfl rfl (fun w hs => zA0 (v := .int .i64 _) rfl) hK ?_
   refine zAr (by kernel_rfl) ?_; clear hK; refine zAo ?_; refine zA3 (zA1 ?_); refine zA rfl (zA2 (v := .pointer (some _)) rfl) ?_; refine zA rfl (zA8 rfl) ?_; refine zA rfl (zA4 (o' := 15) zCx rfl sz4 rfl rfl rfl) ?_; refine zA rfl (zA7 uz4 rfl rfl (hs.cellAt 2 rfl rfl)) ?_; refine zA rfl (zA0 (v := .bool _) rfl) ?_; refine zA6 ?_; refine zB6 rfl (rfl) ?_; refine zBp rfl ?_; refine zA3 (zA1 ?_); refine zA rfl (zA0 (v := .bool _) rfl) ?_; refine zA rfl (zA0 (v := .nilIface) rfl) ?_; refine zA6 ?_; refine zAc ?_; refine zDz (v := .bool _) (v2 := .nilIface) rfl rfl rfl ?_; obtain ⟨dk2, hR2, hj⟩ := hI1
   exact ⟨_, rfl, 0, dk2, Vx, qx, cx, nx, hR2, .inr ⟨rfl, 0, dx, hj, by rw [zAz]; rfl, Mem.closeUp (hs.arr [2, 3, 4, 5, 6, 7, 1, 8] 9 (by decide))⟩⟩
end
section
open Go.RowKit
attribute [local irreducible] zAh eV
variable {g w : World} {L M : List HP} {ad : Nat → Addr} {p u d l c n q cc : Nat} {dk : Dk} {V : Vw}
def obCk (o : Ob) (b : List UInt8) : Nat := if ((b.length : Nat) : Int) ≠ o.2.1 then 103 else if zBz 0 b ≠ o.2.2 then 102 else 0
theorem check_sl (hE : ErrU ad g) (hs : Mem g w L) {o : Ob} {a : Option Addr} {c : Nat} {b : List UInt8} (hr : Rd g L (.slice a b.length c) (zAm b)) (hl : b.length ≤ 1048576) : Calls Tryz.prog 47 #[.agg (obL o).toArray, .slice a b.length c] w (Ret fun v w' => v = zAh ad (obCk o b) ∧ Mem g w' L) := by
  refine zAf Tryz.func47 rfl rfl ?_
  skip
  refine zA3 (zA1 ?_); refine zBh (v := .agg _) hs rfl rfl ?_; clear hs; intro b2 w hs
  try simp only [zzs, zzz] at hs
  refine zA rfl (zA0 (v := .nilIface) rfl) ?_; refine zA6 ?_; refine zA3 ?_; refine zA3 (zA1 ?_); refine zA rfl (zA2 (v := .slice _ _ _) rfl) ?_; refine zA rfl (zAt zCk rfl) ?_; refine zA rfl (zA4 (o' := 1) uz66 rfl sz3 rfl rfl rfl) ?_; refine zA rfl (zA7 uz3 rfl rfl (hs.cellAt 0 rfl rfl)) ?_; refine zA rfl (zCf rfl rfl) ?_; refine zA6 ?_; refine zB rfl ?_ ?_
  ·
   intro h9; have g9 := zEt h9; refine zA3 (zA1 ?_); refine zA rfl (zA7 zCe rfl rfl (hE.cellW hs 103 (by decide) rfl)) ?_; refine zA rfl (zA0 (v := zAh ad _) rfl) ?_; refine zA6 ?_; refine zAc ?_; refine zBd (v := zAh ad _) rfl rfl ?_; exact ⟨_, rfl, by rw [obCk, if_pos (by omega)], hs.tail⟩
  ·
   intro h9; have g9 := zEs h9; refine zAd ?_; refine zA3 ?_; refine zA3 ?_; refine zAp zBk hs ?_; intro w tr hK; replace hs := tr _ hs; clear tr; refine zA5 0 rfl rfl (fun w hs => zA2 (v := .slice _ _ _) rfl) hK ?_; refine zA5 3 rfl rfl (fun w hs => zA4 (o' := 2) uz66 rfl sz64 rfl rfl rfl) hK ?_; refine zA5 4 rfl rfl (fun w hs => zA7 uz64 rfl rfl (hs.cellAt 0 rfl rfl)) hK ?_; refine zAe [1] ?_; refine ⟨⟨_, rfl, ?_⟩, trivial⟩; refine zB1 hs rfl ([.slice a b.length c]) zG1 zs22 rfl (by simp [Value.cells]) rfl rfl rfl ?_; clear hs; intro b12 w hs
   try simp only [zzs, zzz] at hs
   clear hK; have hK := hs.tail; refine zA6 ⟨hK, ?_⟩; refine zAe [2] ?_; refine ⟨⟨_, rfl, ?_⟩, trivial⟩; refine zAb rfl en88 (of_sl hs (Rd.cells 0 rfl rfl) hr.cons.cons (by omega)) ?_; clear hs; rintro _ w ⟨rfl, hs⟩; clear hK; have hK := hs.tail; refine zA6 ⟨hK, ?_⟩; refine zA5 5 rfl rfl (fun w hs => zCf rfl rfl) hK ?_; refine zAr (by kernel_rfl) ?_; clear hK; refine zB rfl ?_ ?_
   ·
    intro h16; have g16 := zEt h16; refine zA3 (zA1 ?_); refine zA rfl (zA7 zCe rfl rfl (hE.cellW hs 102 (by decide) rfl)) ?_; refine zA rfl (zA0 (v := zAh ad _) rfl) ?_; refine zA6 ?_; refine zAc ?_; refine zBd (v := zAh ad _) rfl rfl ?_; exact ⟨_, rfl, by rw [obCk, if_neg (by omega), if_pos (by omega)], hs.tail.tail⟩
   ·
    intro h16; have g16 := zEs h16; refine zAd ?_; refine zA3 (zA1 ?_); refine zA rfl (zA0 (v := .nilIface) rfl) ?_; refine zA6 ?_; refine zAc ?_; refine zBd (v := .nilIface) rfl rfl ?_; exact ⟨_, rfl, by rw [obCk, if_neg (by omega), if_neg (by omega), zAz], hs.tail.tail⟩
def obG (each : Int) (o : Ob) (b : List UInt8) : Nat := if obCk o b ≠ 0 then obCk o b else (mkR o.1 b each).1
def upG (each : Int) : Nat → List Ob → List (List UInt8) → Flt
  | i, o :: os, b :: bs => if obG each o b ≠ 0 then (obG each o b, some i) else upG each (i + 1) os bs
  | _, _, _ => (0, none)
def upF (each : Int) (m : Mf) (bs : List (List UInt8)) : Flt := if each < 1 ∨ 1048576 < each then (105, none) else if (mfF m).1 ≠ 0 then mfF m else if bs.length ≠ m.obs.length then (103, none) else upG each 0 m.obs bs
theorem upG_at {each : Int} {os : List Ob} {bs : List (List UInt8)} {k : Nat} {o : Ob} {b : List UInt8} (h1 : os[k]? = some o) (h2 : bs[k]? = some b) : upG each k (os.drop k) (bs.drop k) = if obG each o b ≠ 0 then (obG each o b, some k) else upG each (k + 1) (os.drop (k + 1)) (bs.drop (k + 1)) := by
  obtain ⟨h3, rfl⟩ := List.getElem?_eq_some_iff.1 h1; obtain ⟨h4, rfl⟩ := List.getElem?_eq_some_iff.1 h2; rw [List.drop_eq_getElem_cons h3, List.drop_eq_getElem_cons h4, upG]
theorem mkR_ok {nm nm' : ByteArray} {l : List UInt8} {E : Nat} {sz sm ea pa : Int} (h : mkR nm l E = (0, nm', sz, sm, ea, pa)) : nm' = nm ∧ sz = (l.length : Nat) ∧ sm = (zBz 0 l : Nat) ∧ ea = (E : Nat) ∧ pa = (zB2 l.length E : Nat) := by
  unfold mkR at h
  split at h
  · cases h
  · split at h
    · cases h
    · split at h
      · cases h
      · simp only [Prod.mk.injEq, true_and, Int.toNat_natCast] at h
        obtain ⟨rfl, rfl, rfl, rfl, rfl⟩ := h; exact ⟨rfl, rfl, rfl, rfl, rfl⟩
theorem fill_up (d l c : Nat) (k a b t : Int) (s1 s2 : SA) (n m : Nat) : Instr.fill ((#[(0, 1), (1, 1), (2, 1), (3, 6), (9, 1), (10, 1), (11, 4), (15, 1)] : Array (Nat × Nat))[·]?) #[.pointer none, .pointer none, .pointer none, .int .i64 0, .int .i64 0, .int .i64 0, .int .i64 0, .slice none 0 0, .slice none 0 0, .slice none 0 0, .slice none 0 0, .int .i64 0, .int .i64 0, .int .i64 0, .int .i64 0, .bool false]
    [(0, .pointer (some ⟨d, 0, none⟩)), (1, .pointer (some ⟨l, 0, none⟩)), (2, .pointer (some ⟨c, 0, none⟩)), (3, .agg #[.int .i64 k, .int .i64 a, .int .i64 b, .int .i64 t, .slice s1.1 n s1.2, .slice s2.1 m s2.2]), (6, .agg #[.int .i64 k, .int .i64 0, .int .i64 0, .int .i64 0])] = some #[.pointer (some ⟨d, 0, none⟩), .pointer (some ⟨l, 0, none⟩), .pointer (some ⟨c, 0, none⟩), .int .i64 k, .int .i64 a, .int .i64 b, .int .i64 t, .slice s1.1 n s1.2, .slice s2.1 m s2.2, .slice none 0 0, .slice none 0 0, .int .i64 k, .int .i64 0, .int .i64 0, .int .i64 0, .bool false] := by kernel_rfl
def upZ (d l c E : Nat) (m : Mf) (s1 s2 : SA) : UpT := ⟨d, l, c, m, s1, s2, E, [], (none, 0), (none, 0)⟩
theorem run_buildUp {ρ : Env} {dst : Option Tmp} {ty : TypeId} {pos : String} {aft : Array Edge} {x0 x1 x2 x3 x6 : Operand} {P : Program} {t : TypeId} {fs : Array Field} {E : Nat} {m : Mf} {e o : SA} (ht : P.underlying t = some (.struct fs)) (hz : (P.info? t).map (·.zero) = some (some (.agg #[.pointer none, .pointer none, .pointer none, .int .i64 0, .int .i64 0, .int .i64 0, .int .i64 0, .slice none 0 0, .slice none 0 0, .slice none 0 0, .slice none 0 0, .int .i64 0, .int .i64 0, .int .i64 0, .int .i64 0, .bool false])))
    (hp : ∀ w, (fs.mapM (m := Sem) fun f => do pure (f.offset, ← sizeOf f.type)).run P w = .ok #[(0, 1), (1, 1), (2, 1), (3, 6), (9, 1), (10, 1), (11, 4), (15, 1)] w) (h0 : ev ρ x0 = .pointer (some ⟨d, 0, none⟩)) (h1 : ev ρ x1 = .pointer (some ⟨l, 0, none⟩)) (h2 : ev ρ x2 = .pointer (some ⟨c, 0, none⟩)) (h3 : ev ρ x3 = .agg (mfL m e o).toArray) (h6 : ev ρ x6 = .agg (s4V (m.id, 0, 0, 0)).toArray) :
    (execOp (ev ρ) ⟨dst, .build t #[(0, x0), (1, x1), (2, x2), (3, x3), (6, x6)], ty, pos, aft, none⟩).run P w = .ok (.value (.agg (upL (upZ d l c E m e o) (m.id, 0, 0, 0) false).toArray)) w := by
  refine zBs (ps := [(0, x0), (1, x1), (2, x2), (3, x3), (6, x6)]) ht hz hp ?_; simp only [List.map_cons, List.map_nil, h0, h1, h2, h3, h6]; exact fill_up d l c m.id m.base m.fin m.time e o _ _
def fitsB (E : Nat) (bs : List (List UInt8)) (a : S4) : Bool := if (bs.length : Int) ≤ a.2.1 then decide (a.2.1 = bs.length) && decide (a.2.2.2 = 0) else decide (a.2.2.2 ≤ (zB2 (bs[a.2.1.toNat]?.getD []).length E : Nat))
set_option maxHeartbeats 1000000 in
theorem fits_sl {t : UpT} {a z : S4} {ov : Bool} (hs : Mem g w (ucO u t a ov L)) (hlen : t.m.obs.length = t.xs.length) (hz : 0 ≤ z.2.1) : Calls Tryz.prog 51 #[.pointer (some ⟨u, 0, none⟩), .agg (s4V z).toArray] w (Ret fun v w' => v = .bool (fitsB t.each (t.xs.map (·.1)) z) ∧ Mem g w' (ucO u t a ov L)) := by
  obtain ⟨td, tl, tc, tm, s1, s2, te, xs, ⟨a3, c3⟩, ⟨a4, c4⟩⟩ := t; obtain ⟨z1, z2, z3, z4⟩ := z; simp only at hlen hz hs ⊢; obtain ⟨k, rfl⟩ : ∃ k : Nat, z2 = k := ⟨z2.toNat, by omega⟩; refine zAf Tryz.func51 rfl rfl ?_
  skip
  refine zA3 (zA1 ?_); refine zBh (v := .agg _) hs rfl rfl ?_; clear hs; intro b3 w hs
  try simp only [zzs, zzz] at hs
  refine zA rfl (zA0 (v := .bool _) rfl) ?_; refine zA6 ?_; refine zA3 ?_; refine zA3 ?_; refine zAp zBk hs ?_; intro w tr hK; replace hs := tr _ hs; clear tr; refine zA5 0 rfl rfl (fun w hs => zA4 (o' := 1) zCy rfl sz3 rfl rfl rfl) hK ?_; refine zA5 1 rfl rfl (fun w hs => zA7 uz3 rfl rfl (hs.cellAt 0 rfl rfl)) hK ?_; refine zA5 2 rfl rfl (fun w hs => zA2 (v := .pointer (some _)) rfl) hK ?_; refine zA5 3 rfl rfl (fun w hs => zA8 rfl) hK ?_; refine zA5 4 rfl rfl (fun w hs => zA4 (o' := 10) zCx rfl sz104 rfl rfl rfl) hK ?_; refine zA5 5 rfl rfl (fun w hs => zA7 zDc rfl rfl (hs.cellAt 1 rfl rfl)) hK ?_; refine zA5 6 rfl rfl (fun w hs => zAt zDc rfl) hK ?_
  refine zA5 7 rfl rfl (fun w hs => zCw rfl rfl) hK ?_; refine zAr (by kernel_rfl) ?_; clear hK; refine zB rfl ?_ ?_
  ·
   intro h12; have g12 := of_decide_eq_true h12; simp only at g12; refine zA3 ?_; refine zAp zBk hs ?_; intro w tr hK; replace hs := tr _ hs; clear tr; refine zA5 0 rfl rfl (fun w hs => zA4 (o' := 1) zCy rfl sz3 rfl rfl rfl) hK ?_; refine zA5 1 rfl rfl (fun w hs => zA7 uz3 rfl rfl (hs.cellAt 0 rfl rfl)) hK ?_; refine zA5 2 rfl rfl (fun w hs => zA2 (v := .pointer (some _)) rfl) hK ?_; refine zA5 3 rfl rfl (fun w hs => zA8 rfl) hK ?_; refine zA5 4 rfl rfl (fun w hs => zA4 (o' := 10) zCx rfl sz104 rfl rfl rfl) hK ?_; refine zA5 5 rfl rfl (fun w hs => zA7 zDc rfl rfl (hs.cellAt 1 rfl rfl)) hK ?_; refine zA5 6 rfl rfl (fun w hs => zAt zDc rfl) hK ?_
   refine zA5 7 rfl rfl (fun w hs => zBo rfl rfl) hK ?_; refine zA5 8 rfl rfl (fun w hs => zA2 (v := .bool _) rfl) hK ?_; refine zGb (t := _) (d := 21) rfl ?_ ?_
   ·
    intro h20; have g20 := of_decide_eq_true h20; refine zAq 9 rfl rfl rfl rfl h20 (fun w hs => zA4 (o' := 3) zCy rfl sz3 rfl rfl rfl) hK ?_; refine zAq 10 rfl rfl rfl rfl h20 (fun w hs => zA7 uz3 rfl rfl (hs.cellAt 0 rfl rfl)) hK ?_; refine zAq 11 rfl rfl rfl rfl h20 (fun w hs => zBo rfl rfl) hK ?_; refine zA5 12 rfl rfl (fun w hs => zAk (v := .bool _) rfl h20 rfl) hK ?_; refine zA5 13 rfl rfl (fun w hs => zA0 (v := .bool _) rfl) hK ?_; refine zAr (by kernel_rfl) ?_; clear hK; refine zAc ?_; refine zBd (v := .bool _) rfl rfl ?_; exact ⟨_, rfl, by simp only [fitsB, List.length_map]; rw [if_pos (by omega)]; simp [*], hs.tail⟩
   ·
    intro h20; have g20 := of_decide_eq_false h20; refine zAj 9 rfl rfl rfl rfl h20 hK ?_; refine zAj 10 rfl rfl rfl rfl h20 hK ?_; refine zAj 11 rfl rfl rfl rfl h20 hK ?_; refine zA5 12 rfl rfl (fun w hs => zAg (v := .bool _) rfl h20 rfl) hK ?_; refine zA5 13 rfl rfl (fun w hs => zA0 (v := .bool _) rfl) hK ?_; refine zAr (by kernel_rfl) ?_; clear hK; refine zAc ?_; refine zBd (v := .bool _) rfl rfl ?_; exact ⟨_, rfl, by simp only [fitsB, List.length_map]; rw [if_pos (by omega)]; simp [*], hs.tail⟩
  ·
   intro h12; have g12 := of_decide_eq_false h12; simp only at g12; obtain ⟨x, hx⟩ : ∃ x, xs[k]? = some x := ⟨_, List.getElem?_eq_getElem (by omega)⟩; obtain ⟨o, ho⟩ : ∃ o, tm.obs[k]? = some o := ⟨_, List.getElem?_eq_getElem (by omega)⟩; have hpl := plansL_at (each := te) ho hx; obtain ⟨bp, op, rfl⟩ := (RdK.row 5 rfl : RdK g _ 5 (.slice a4 xs.length c4) (zC9 te tm.obs xs)).at hs (by rw [zC9, List.length_map, List.length_zip]; omega); refine zAd ?_; refine zA3 ?_; refine zAp zBk hs ?_; intro w tr hK; replace hs := tr _ hs; clear tr; refine zA5 0 rfl rfl (fun w hs => zA4 (o' := 3) zCy rfl sz3 rfl rfl rfl) hK ?_; refine zA5 1 rfl rfl (fun w hs => zA7 uz3 rfl rfl (hs.cellAt 0 rfl rfl)) hK ?_
   refine zA5 2 rfl rfl (fun w hs => zA2 (v := .pointer (some _)) rfl) hK ?_; refine zA5 3 rfl rfl (fun w hs => zA8 rfl) hK ?_; refine zA5 4 rfl rfl (fun w hs => zA4 (o' := 10) zCx rfl sz104 rfl rfl rfl) hK ?_; refine zA5 5 rfl rfl (fun w hs => zA7 zDc rfl rfl (hs.cellAt 1 rfl rfl)) hK ?_; refine zA5 6 rfl rfl (fun w hs => zA4 (o' := 1) zCy rfl sz3 rfl rfl rfl) hK ?_; refine zA5 7 rfl rfl (fun w hs => zA7 uz3 rfl rfl (hs.cellAt 0 rfl rfl)) hK ?_; refine zA5 8 rfl rfl (fun w hs => zAs zDc zG3 rfl rfl (i := k) rfl (show k < xs.length by omega) rfl) hK ?_; refine zA5 9 rfl rfl (fun w hs => zA4 zE rfl sz3 rfl rfl rfl) hK ?_
   refine zA5 10 rfl rfl (fun w hs => zA7 uz3 rfl rfl ((RdK.row (k := 5) (v := .slice (some ⟨bp, op, none⟩) xs.length c4) (rows := zC9 te tm.obs xs) 5 rfl).cell hs hpl (j := 4) rfl)) hK ?_; refine zA5 11 rfl rfl (fun w hs => zDx rfl rfl) hK ?_; refine zA5 12 rfl rfl (fun w hs => zA0 (v := .bool _) rfl) hK ?_; refine zAr (by kernel_rfl) ?_; clear hK; refine zAc ?_; refine zBd (v := .bool _) rfl rfl ?_; exact ⟨_, rfl, by show Value.bool (decide (z4 ≤ ((zB2 x.1.length te : Nat) : Int))) = .bool (fitsB te (xs.map (·.1)) (z1, (k : Int), z3, z4)); rw [fitsB, if_neg (by simp only [List.length_map]; omega)]; simp only [Int.toNat_natCast, List.getElem?_map, hx]; rfl, hs.tail⟩
end
end Go.Proofs.YthejaanobeonnaaGreatDoor
