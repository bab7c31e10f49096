/- Manifests read back. A struct is written into a slice of structs; items with their slices. A view read back. Two views: are they the same. A view's bytes, spoilt; its items in order. Entries as bytes; the remote log in plain words. A view, in whatever order its segments stand. An entry read back. The disk, over chunks: Create, Append, Cut, Sync, Rename, Remove, Used; what is told. -/
import Derived.Test.YtdkgdjnbpjjfmaaGreatDoorB4
import Derived.Test.YtdkgdjnbpjjfmaaGreatDoorB2
import Derived.Test.YtdkgdjnbpjjfmaaGreatDoorB3
import Derived.Test.YtdkgdjnbpjjfmaaGreatDoorB1
namespace Go.Proofs.YtdkgdjnbpjjfmaaGreatDoor
set_option linter.all false
open Go.RowKit
attribute [local irreducible] zAq eV
variable {g w : World} {L M : List HP} {ad : Nat → Addr}

theorem zBm {b x r : List UInt8} {i : Nat} (h : b.drop i = x ++ r) : b.drop (i + x.length) = r := by rw [← List.drop_drop, h, List.drop_left]
theorem wrapZ {n : Int} (h0 : 0 ≤ n) (h1 : n ≤ 1099511627776) : IntKind.i64.wrap ((n.toNat : Nat) : Int) = n := by rw [Int.toNat_of_nonneg h0]; exact wrap_i64 ⟨by omega, by omega⟩
theorem epB_drop {l : List Pr} {k : Nat} {q : Pr} (h : l[k]? = some q) : epB (l.drop k) = idB q.1 ++ (idB q.2 ++ epB (l.drop (k + 1))) := by
  obtain ⟨hk, he⟩ := List.getElem?_eq_some_iff.1 h
  rw [List.drop_eq_getElem_cons hk, he]; simp [epB, prB]
theorem obB_drop {l : List Ob} {k : Nat} {o : Ob} (h : l[k]? = some o) : obB (l.drop k) = zB4 o.1.size ++ (o.1.data.toList ++ (idB o.2.1 ++ (zB4 o.2.2 ++ obB (l.drop (k + 1))))) := by
  obtain ⟨hk, he⟩ := List.getElem?_eq_some_iff.1 h
  rw [List.drop_eq_getElem_cons hk, he]; simp [obB, oB]
theorem ob_short {o : Ob} (h : zD7 o = 0) : 1 ≤ o.1.data.toList.length ∧ o.1.data.toList.length ≤ 64 := by
  unfold zD7 at h
  split at h
  · cases h
  · rename_i hv
    have hv : zCa o.1.data.toList = true := by simpa using hv
    simp only [zCa, Bool.and_eq_true, decide_eq_true_eq] at hv
    omega
set_option maxHeartbeats 4000000 in
theorem maniR_sl (hP : ErrP ad g) (hW : ErrW ad g) (hE : ErrV ad g) (hs : Mem g w L) {a : Option Addr} {n c : Nat} {m : Mf} (hr : Rd g L (.slice a n c) (zAm (mfB m))) (hn : n = (mfB m).length) (hc : n ≤ c) (h0 : mfF m = (0, none)) (hu : ∀ q ∈ m.obs, q.2.2 < 4294967296) : Calls Tryz.prog 113 #[.slice a n c] w (Ret fun v w' => ∃ s1 s2 : SA, v = .tuple #[.agg (mfL m s1 s2).toArray, .nilIface] ∧ Mem g w' (mfP m s1 s2 ++ L)) := by
  have hF := mf_fine (x := m) (by rw [h0]); have hbl := zEx hF; have h8 := hF.obs; have h256 := hF.eps; have hid := hF.id; have hba := hF.base; have hfi := hF.fin; have hti := hF.time; obtain ⟨B, hB⟩ : ∃ B, B = mfBody m := ⟨_, rfl⟩; rw [← hB] at hbl
  have hd0 : B.drop 0 = idB m.id ++ (idB m.base ++ (idB m.fin ++ (zB4 (zig m.time) ++ (zB4 m.eps.length ++ (epB (m.eps.drop 0) ++ (zB4 m.obs.length ++ (obB (m.obs.drop 0) ++ []))))))) := by rw [hB]; simp [mfBody, hdB]
  have hop : openL (mfB m) = (0, B) := by rw [hB]; exact open_seal _
  refine zAo Tryz.func113 rfl rfl ?_
  skip
  refine zA6 (zA1 ?_); refine zBd hs rfl ze39 ?_; clear hs; intro b2 w hs
  try simp only [List.set_cons_succ, List.set_cons_zero] at hs
  refine zA rfl (zA2 (v := .nilIface) rfl) ?_; refine zA4 (zA6 (zA1 ?_)); refine zA rfl (zA0 (v := .slice _ _ _) rfl) ?_; refine zAb rfl en108 (copen_sl hP hs hr.cons hn hc (by rw [mfB, zC1, ← hB]; omega) hop) ?_; clear hs; rintro _ w ⟨a13, c13, rfl, hs⟩; rw [zB6]; refine zA rfl (zA0 (v := .tuple _) rfl) ?_; refine zA rfl (zAa (v := .slice _ _ _) rfl rfl) ?_; refine zA rfl (zAa (v := .nilIface) rfl rfl) ?_; refine zA rfl (zA2 (v := .slice _ _ _) rfl) ?_; refine zA rfl (zA2 (v := .nilIface) rfl) ?_; refine zA4 ?_; refine zA6 ?_; refine zA6 (zA1 ?_); refine zA rfl (zA0 (v := .nilIface) rfl) ?_; refine zA rfl (zBf rfl) ?_; refine zA4 ?_; refine zAx rfl (rfl) ?_; refine zAf ?_
  refine zA6 (zA1 ?_); refine zA rfl (zA0 (v := .slice _ _ _) rfl) ?_; refine zAb rfl en68 (zFv ad hs (hs.rdOwn 0 rfl) rfl (by omega)) ?_; clear hs; rintro _ w ⟨rb, rfl, hs⟩; replace hs := hs.drop 1; refine zA rfl (zA2 (v := .pointer (some _)) rfl) ?_; refine zA4 (zA6 (zA1 ?_)); refine zA rfl (zA0 (v := .pointer (some _)) rfl) ?_; refine zAb rfl zDr (zBs (most := 4611686018427387904) hW hs (by omega) hd0 (by omega) (by omega)) ?_; clear hs; rintro _ w ⟨rfl, hs⟩; have hd1 : B.drop (0 + (zB4 m.id.toNat).length) = _ := zBm hd0; generalize 0 + (zB4 m.id.toNat).length = p1 at hs hd1; refine zA rfl (zAh zBj uz3 rfl (c := m.id) (wrapZ hid.1 (by omega))) ?_
  refine zA rfl (zA0 (v := .pointer (some _)) rfl) ?_; refine zAb rfl zDr (zBs (most := 4611686018427387904) hW hs (by omega) hd1 (by omega) (by omega)) ?_; clear hs; rintro _ w ⟨rfl, hs⟩; have hd2 : B.drop (p1 + (zB4 m.base.toNat).length) = _ := zBm hd1; generalize p1 + (zB4 m.base.toNat).length = p2 at hs hd2; refine zA rfl (zAh zBj uz2 rfl (c := m.base) (wrapZ hba.1 hba.2)) ?_; refine zA rfl (zA0 (v := .pointer (some _)) rfl) ?_; refine zAb rfl zDr (zBs (most := 4611686018427387904) hW hs (by omega) hd2 (by omega) (by omega)) ?_; clear hs; rintro _ w ⟨rfl, hs⟩; have hd3 : B.drop (p2 + (zB4 m.fin.toNat).length) = _ := zBm hd2; generalize p2 + (zB4 m.fin.toNat).length = p3 at hs hd3
  refine zA rfl (zAh zBj uz2 rfl (c := m.fin) (wrapZ hfi.1 hfi.2)) ?_; refine zA rfl (zA0 (v := .pointer (some _)) rfl) ?_; refine zAb rfl en144 (intOK_sl hW hs (by omega) hd3 ⟨by omega, by omega⟩ ⟨by omega, by omega⟩) ?_; clear hs; rintro _ w ⟨rfl, hs⟩; have hd4 : B.drop (p3 + (zB4 (zig m.time)).length) = _ := zBm hd3; generalize p3 + (zB4 (zig m.time)).length = p4 at hs hd4; refine zA rfl (zC3 (cs := [.int .i64 m.id, .int .i64 m.base, .int .i64 m.fin, .int .i64 m.time, .slice none 0 0, .slice none 0 0]) zBx ze39 pl39 rfl) ?_; refine zBd hs rfl ze39 ?_; clear hs; intro b7 w hs
  try simp only [List.set_cons_succ, List.set_cons_zero] at hs
  refine zAn hs 0 rfl rfl rfl zDf rfl rfl ?_; clear hs; intro w hs
  try simp only [List.set_cons_succ, List.set_cons_zero] at hs
  refine zA4 ?_; replace hs := hs.arr [1, 0, 2] 3 (by decide); refine zA6 ?_; refine zA6 (zA1 ?_); refine zA rfl (zA0 (v := .pointer (some _)) rfl) ?_; refine zAb rfl zDr (zBs (most := 256) hW hs (by omega) hd4 (by omega) (by omega)) ?_; clear hs; rintro _ w ⟨rfl, hs⟩; have hd5 : B.drop (p4 + (zB4 m.eps.length).length) = _ := zBm hd4; generalize p4 + (zB4 m.eps.length).length = p5 at hs hd5; refine zA rfl (zA2 (v := .int .u64 _) rfl) ?_; refine zA4 ?_; replace hs := (hs.addE (zEg 2 _)).arr [1, 0, 2, 3] 4 (by decide); refine zAw ?_
  refine zBw (X := Nat × SA × Nat) [8, 36, 37, 38, 39, 40, 41, 42, 43, 44, 45, 46, 47, 48, 49, 50, 51, 52, 53, 54, 55, 56] (fun q => [(8, .int .u64 ((m.eps.length - q.1 : Nat) : Int))]) (fun q w => q.1 ≤ m.eps.length ∧ B.drop q.2.2 = epB (m.eps.drop q.1) ++ (zB4 m.obs.length ++ (obB (m.obs.drop 0) ++ [])) ∧ Mem g w (zFc rb ad B (q.2.2, 0) :: zFp 2 (.slice q.2.1.1 q.1 q.2.1.2) ((m.eps.take q.1).map prL) :: cells b7 [.int .i64 m.id, .int .i64 m.base, .int .i64 m.fin, .int .i64 m.time, .slice q.2.1.1 q.1 q.2.1.2, .slice none 0 0] 39 :: cells b2 [.int .i64 0, .int .i64 0, .int .i64 0, .int .i64 0, .slice none 0 0, .slice none 0 0] 39 :: L)) (fun q => m.eps.length - q.1) ((0, (none, 0), p5)) ?_ ?_ ?_
  · exact ⟨rfl, trivial⟩
  · exact ⟨Nat.zero_le _, hd5, hs⟩
  clear hs; rintro x ξ w hI; obtain ⟨k, s, p⟩ := x; obtain ⟨hk, hd, hs⟩ := hI; simp only at hk hd hs
  show cw _ _ _ _ _ _ (updL (mix _ ξ _) [(8, .int .u64 ((m.eps.length - k : Nat) : Int))]) w
  refine zA6 ?_; refine zA6 (zA1 ?_); refine zA rfl (zA0 (v := .int .u64 _) rfl) ?_; refine zA rfl (zBi rfl rfl) ?_; refine zA rfl (zA0 (v := .bool _) rfl) ?_; refine zBa (t := _) (d := 38) rfl ?_ ?_
  ·
   intro h37; have g37 := of_decide_eq_true h37; obtain ⟨y, hy⟩ : ∃ y, m.eps[k]? = some y := ⟨_, List.getElem?_eq_getElem (by omega)⟩; have hpy := hF.pr y (List.mem_of_getElem? hy); rw [epB_drop hy, List.append_assoc, List.append_assoc] at hd; refine zAi rfl rfl h37 ?_; refine zA rfl (zA0 (v := .pointer (some _)) rfl) ?_; refine zAi rfl rfl h37 ?_; refine zAb rfl en70 (errOK_sl hs) ?_; clear hs; rintro _ w ⟨rfl, hs⟩; refine zAi rfl rfl h37 ?_; refine zA rfl (zEf rfl) ?_; refine zA rfl (zAj (v := .bool _) rfl h37 rfl) ?_; refine zA4 ?_; refine zBb rfl (rfl) ?_; refine zAf ?_; refine zA6 ?_; refine zAw ?_; refine zAy zBv (hs.suffix 4 rfl) ?_; intro w tr hK; replace hs := tr _ hs; clear tr
   refine zA5 0 rfl rfl (fun w hs => zA3 (o' := 4) zBx rfl sz36 rfl rfl rfl) hK ?_; refine zA5 2 rfl rfl (fun w hs => zA0 (v := .pointer (some _)) rfl) hK ?_; refine zA5 5 rfl rfl (fun w hs => zA0 (v := .pointer (some _)) rfl) hK ?_; refine zA9 [1, 3] ?_; refine ⟨⟨_, rfl, ?_⟩, ⟨_, rfl, ?_⟩, trivial⟩
   ·
    refine zA rfl (zA8 zCx rfl rfl (hs.cellAt 2 rfl rfl)) ?_; clear hK; have hK := (show Mem g w L from by first | exact hs.suffix 4 rfl | exact hs.suffix 5 rfl); refine zA4 ⟨hK, ?_⟩; refine zA9 [3] ?_; refine ⟨⟨_, rfl, ?_⟩, trivial⟩; refine zAb rfl zDr (zBs (most := 4611686018427387904) hW hs (by omega) hd (by omega) (by omega)) ?_; clear hs; rintro _ w ⟨rfl, hs⟩; have he1 : B.drop (p + (zB4 y.1.toNat).length) = _ := zBm hd; generalize p + (zB4 y.1.toNat).length = q1 at hs he1; clear hK; have hK := hs.suffix 4 rfl; refine zA4 ⟨hK, ?_⟩; refine zA5 4 rfl rfl (fun w hs => zAh zBj uz3 rfl (c := y.1) (wrapZ hpy.1.1 (by omega))) hK ?_; refine zA9 [6] ?_; refine ⟨⟨_, rfl, ?_⟩, trivial⟩
    refine zAb rfl zDr (zBs (most := 4611686018427387904) hW hs (by omega) he1 (by omega) (by omega)) ?_; clear hs; rintro _ w ⟨rfl, hs⟩; have he2 : B.drop (q1 + (zB4 y.2.toNat).length) = _ := zBm he1; generalize q1 + (zB4 y.2.toNat).length = q2 at hs he2; clear hK; have hK := hs.suffix 4 rfl; refine zA4 ⟨hK, ?_⟩; refine zA5 7 rfl rfl (fun w hs => zAh zBj uz2 rfl (c := y.2) (wrapZ hpy.2.1 hpy.2.2)) hK ?_; refine zA5 8 rfl rfl (fun w hs => zB3 ([.int .i64 y.1, .int .i64 y.2]) zDk ze141 pl141 rfl (by simp [Value.cells]) rfl rfl) hK ?_; refine zA9 [9] ?_; refine ⟨⟨_, rfl, ?_⟩, trivial⟩; refine zAz hs rfl (row := prL y) zCx zsPr rfl (zFq y.1 y.2) (by decide) (by decide) ?_; clear hs
    intro b54 w hs; clear hK; have hK := hs.suffix 5 rfl; refine zA4 ⟨hK, ?_⟩; refine zA9 [10] ?_; refine ⟨⟨_, rfl, ?_⟩, trivial⟩; refine zAv hs rfl 2 0 rfl rfl zCx zCx in141 rfl rfl (by rfl) rfl rfl (by simp only [List.length_map, List.length_take]; omega) (by simp only [List.length_map, List.length_take]; omega) ?_; clear hs; intro a55 c55 w hs; simp only [List.set_cons_succ, List.set_cons_zero] at hs; clear hK; have hK := hs.suffix 5 rfl; refine zA4 ⟨hK, ?_⟩; refine zA5 11 rfl rfl (fun w hs => zA3 (o' := 4) zBx rfl sz36 rfl rfl rfl) hK ?_; refine zA9 [12] ?_; refine ⟨⟨_, rfl, ?_⟩, trivial⟩; refine zAr (v := .slice _ _ _) hs 3 rfl sz36 rfl rfl rfl rfl ?_; clear hs; intro w hs
    try simp only [List.set_cons_succ, List.set_cons_zero] at hs
    clear hK; have hK := hs.suffix 5 rfl; refine zA4 ⟨hK, ?_⟩; refine zAp (by kernel_rfl) ?_; clear hK; refine zA1 ?_; refine zA rfl (zA0 (v := .int .u64 _) rfl) ?_; refine zA rfl (zBo rfl rfl) ?_; refine zA rfl (zA2 (v := .int .u64 _) rfl) ?_; refine zA4 ?_
    have hw : IntKind.u64.wrap (((m.eps.length - k : Nat) : Int) - 1) = ((m.eps.length - (k + 1) : Nat) : Int) := by rw [zB]; omega
    have hl : ((m.eps.take k).map prL).length = k := by rw [List.length_map, List.length_take]; omega
    rw [hl] at hs; exact ⟨(k + 1, (a55, c55), q2), by simp only; omega, ⟨by simp only; omega, he2, by simp only [List.take_add_one, hy, Option.toList, List.map_append, List.map_cons, List.map_nil]; exact hs.tail⟩, ⟨congrArg (Value.int .u64) hw, trivial⟩, by repeat (first | exact Out.mix _ _ _ | refine Out.updo rfl ?_ | refine Out.upd rfl ?_ | refine Out.mixIn rfl ?_)⟩
   ·
    refine zAb rfl zDr (zBs (most := 4611686018427387904) hW hs (by omega) hd (by omega) (by omega)) ?_; clear hs; rintro _ w ⟨rfl, hs⟩; have he1 : B.drop (p + (zB4 y.1.toNat).length) = _ := zBm hd; generalize p + (zB4 y.1.toNat).length = q1 at hs he1; clear hK; have hK := hs.suffix 4 rfl; refine zA4 ⟨hK, ?_⟩; refine zA5 4 rfl rfl (fun w hs => zAh zBj uz3 rfl (c := y.1) (wrapZ hpy.1.1 (by omega))) hK ?_; refine zA9 [1, 6] ?_; refine ⟨⟨_, rfl, ?_⟩, ⟨_, rfl, ?_⟩, trivial⟩
    ·
     refine zA rfl (zA8 zCx rfl rfl (hs.cellAt 2 rfl rfl)) ?_; clear hK; have hK := (show Mem g w L from by first | exact hs.suffix 4 rfl | exact hs.suffix 5 rfl); refine zA4 ⟨hK, ?_⟩; refine zA9 [6] ?_; refine ⟨⟨_, rfl, ?_⟩, trivial⟩; refine zAb rfl zDr (zBs (most := 4611686018427387904) hW hs (by omega) he1 (by omega) (by omega)) ?_; clear hs; rintro _ w ⟨rfl, hs⟩; have he2 : B.drop (q1 + (zB4 y.2.toNat).length) = _ := zBm he1; generalize q1 + (zB4 y.2.toNat).length = q2 at hs he2; clear hK; have hK := hs.suffix 4 rfl; refine zA4 ⟨hK, ?_⟩; refine zA5 7 rfl rfl (fun w hs => zAh zBj uz2 rfl (c := y.2) (wrapZ hpy.2.1 hpy.2.2)) hK ?_
     refine zA5 8 rfl rfl (fun w hs => zB3 ([.int .i64 y.1, .int .i64 y.2]) zDk ze141 pl141 rfl (by simp [Value.cells]) rfl rfl) hK ?_; refine zA9 [9] ?_; refine ⟨⟨_, rfl, ?_⟩, trivial⟩; refine zAz hs rfl (row := prL y) zCx zsPr rfl (zFq y.1 y.2) (by decide) (by decide) ?_; clear hs; intro b54 w hs; clear hK; have hK := hs.suffix 5 rfl; refine zA4 ⟨hK, ?_⟩; refine zA9 [10] ?_; refine ⟨⟨_, rfl, ?_⟩, trivial⟩; refine zAv hs rfl 2 0 rfl rfl zCx zCx in141 rfl rfl (by rfl) rfl rfl (by simp only [List.length_map, List.length_take]; omega) (by simp only [List.length_map, List.length_take]; omega) ?_; clear hs; intro a55 c55 w hs; simp only [List.set_cons_succ, List.set_cons_zero] at hs
     clear hK; have hK := hs.suffix 5 rfl; refine zA4 ⟨hK, ?_⟩; refine zA5 11 rfl rfl (fun w hs => zA3 (o' := 4) zBx rfl sz36 rfl rfl rfl) hK ?_; refine zA9 [12] ?_; refine ⟨⟨_, rfl, ?_⟩, trivial⟩; refine zAr (v := .slice _ _ _) hs 3 rfl sz36 rfl rfl rfl rfl ?_; clear hs; intro w hs
     try simp only [List.set_cons_succ, List.set_cons_zero] at hs
     clear hK; have hK := hs.suffix 5 rfl; refine zA4 ⟨hK, ?_⟩; refine zAp (by kernel_rfl) ?_; clear hK; refine zA1 ?_; refine zA rfl (zA0 (v := .int .u64 _) rfl) ?_; refine zA rfl (zBo rfl rfl) ?_; refine zA rfl (zA2 (v := .int .u64 _) rfl) ?_; refine zA4 ?_
     have hw : IntKind.u64.wrap (((m.eps.length - k : Nat) : Int) - 1) = ((m.eps.length - (k + 1) : Nat) : Int) := by rw [zB]; omega
     have hl : ((m.eps.take k).map prL).length = k := by rw [List.length_map, List.length_take]; omega
     rw [hl] at hs; exact ⟨(k + 1, (a55, c55), q2), by simp only; omega, ⟨by simp only; omega, he2, by simp only [List.take_add_one, hy, Option.toList, List.map_append, List.map_cons, List.map_nil]; exact hs.tail⟩, ⟨congrArg (Value.int .u64) hw, trivial⟩, by repeat (first | exact Out.mix _ _ _ | refine Out.updo rfl ?_ | refine Out.upd rfl ?_ | refine Out.mixIn rfl ?_)⟩
    ·
     refine zAb rfl zDr (zBs (most := 4611686018427387904) hW hs (by omega) he1 (by omega) (by omega)) ?_; clear hs; rintro _ w ⟨rfl, hs⟩; have he2 : B.drop (q1 + (zB4 y.2.toNat).length) = _ := zBm he1; generalize q1 + (zB4 y.2.toNat).length = q2 at hs he2; clear hK; have hK := hs.suffix 4 rfl; refine zA4 ⟨hK, ?_⟩; refine zA5 7 rfl rfl (fun w hs => zAh zBj uz2 rfl (c := y.2) (wrapZ hpy.2.1 hpy.2.2)) hK ?_; refine zA5 8 rfl rfl (fun w hs => zB3 ([.int .i64 y.1, .int .i64 y.2]) zDk ze141 pl141 rfl (by simp [Value.cells]) rfl rfl) hK ?_; refine zA9 [1, 9] ?_; refine ⟨⟨_, rfl, ?_⟩, ⟨_, rfl, ?_⟩, trivial⟩
     ·
      refine zA rfl (zA8 zCx rfl rfl (hs.cellAt 2 rfl rfl)) ?_; clear hK; have hK := (show Mem g w L from by first | exact hs.suffix 4 rfl | exact hs.suffix 5 rfl); refine zA4 ⟨hK, ?_⟩; refine zA9 [9] ?_; refine ⟨⟨_, rfl, ?_⟩, trivial⟩; refine zAz hs rfl (row := prL y) zCx zsPr rfl (zFq y.1 y.2) (by decide) (by decide) ?_; clear hs; intro b54 w hs; clear hK; have hK := hs.suffix 5 rfl; refine zA4 ⟨hK, ?_⟩; refine zA9 [10] ?_; refine ⟨⟨_, rfl, ?_⟩, trivial⟩; refine zAv hs rfl 2 0 rfl rfl zCx zCx in141 rfl rfl (by rfl) rfl rfl (by simp only [List.length_map, List.length_take]; omega) (by simp only [List.length_map, List.length_take]; omega) ?_; clear hs; intro a55 c55 w hs
      simp only [List.set_cons_succ, List.set_cons_zero] at hs; clear hK; have hK := hs.suffix 5 rfl; refine zA4 ⟨hK, ?_⟩; refine zA5 11 rfl rfl (fun w hs => zA3 (o' := 4) zBx rfl sz36 rfl rfl rfl) hK ?_; refine zA9 [12] ?_; refine ⟨⟨_, rfl, ?_⟩, trivial⟩; refine zAr (v := .slice _ _ _) hs 3 rfl sz36 rfl rfl rfl rfl ?_; clear hs; intro w hs
      try simp only [List.set_cons_succ, List.set_cons_zero] at hs
      clear hK; have hK := hs.suffix 5 rfl; refine zA4 ⟨hK, ?_⟩; refine zAp (by kernel_rfl) ?_; clear hK; refine zA1 ?_; refine zA rfl (zA0 (v := .int .u64 _) rfl) ?_; refine zA rfl (zBo rfl rfl) ?_; refine zA rfl (zA2 (v := .int .u64 _) rfl) ?_; refine zA4 ?_
      have hw : IntKind.u64.wrap (((m.eps.length - k : Nat) : Int) - 1) = ((m.eps.length - (k + 1) : Nat) : Int) := by rw [zB]; omega
      have hl : ((m.eps.take k).map prL).length = k := by rw [List.length_map, List.length_take]; omega
      rw [hl] at hs; exact ⟨(k + 1, (a55, c55), q2), by simp only; omega, ⟨by simp only; omega, he2, by simp only [List.take_add_one, hy, Option.toList, List.map_append, List.map_cons, List.map_nil]; exact hs.tail⟩, ⟨congrArg (Value.int .u64) hw, trivial⟩, by repeat (first | exact Out.mix _ _ _ | refine Out.updo rfl ?_ | refine Out.upd rfl ?_ | refine Out.mixIn rfl ?_)⟩
     ·
      refine zAz hs rfl (row := prL y) zCx zsPr rfl (zFq y.1 y.2) (by decide) (by decide) ?_; clear hs; intro b54 w hs; clear hK; have hK := hs.suffix 5 rfl; refine zA4 ⟨hK, ?_⟩; refine zA9 [1] ?_; refine ⟨⟨_, rfl, ?_⟩, trivial⟩; refine zA rfl (zA8 zCx rfl rfl (hs.cellAt 3 rfl rfl)) ?_; clear hK; have hK := (show Mem g w L from by first | exact hs.suffix 4 rfl | exact hs.suffix 5 rfl); refine zA4 ⟨hK, ?_⟩; refine zA9 [10] ?_; refine ⟨⟨_, rfl, ?_⟩, trivial⟩; refine zAv hs rfl 2 0 rfl rfl zCx zCx in141 rfl rfl (by rfl) rfl rfl (by simp only [List.length_map, List.length_take]; omega) (by simp only [List.length_map, List.length_take]; omega) ?_; clear hs; intro a55 c55 w hs
      simp only [List.set_cons_succ, List.set_cons_zero] at hs; clear hK; have hK := hs.suffix 5 rfl; refine zA4 ⟨hK, ?_⟩; refine zA5 11 rfl rfl (fun w hs => zA3 (o' := 4) zBx rfl sz36 rfl rfl rfl) hK ?_; refine zA9 [12] ?_; refine ⟨⟨_, rfl, ?_⟩, trivial⟩; refine zAr (v := .slice _ _ _) hs 3 rfl sz36 rfl rfl rfl rfl ?_; clear hs; intro w hs
      try simp only [List.set_cons_succ, List.set_cons_zero] at hs
      clear hK; have hK := hs.suffix 5 rfl; refine zA4 ⟨hK, ?_⟩; refine zAp (by kernel_rfl) ?_; clear hK; refine zA1 ?_; refine zA rfl (zA0 (v := .int .u64 _) rfl) ?_; refine zA rfl (zBo rfl rfl) ?_; refine zA rfl (zA2 (v := .int .u64 _) rfl) ?_; refine zA4 ?_
      have hw : IntKind.u64.wrap (((m.eps.length - k : Nat) : Int) - 1) = ((m.eps.length - (k + 1) : Nat) : Int) := by rw [zB]; omega
      have hl : ((m.eps.take k).map prL).length = k := by rw [List.length_map, List.length_take]; omega
      rw [hl] at hs; exact ⟨(k + 1, (a55, c55), q2), by simp only; omega, ⟨by simp only; omega, he2, by simp only [List.take_add_one, hy, Option.toList, List.map_append, List.map_cons, List.map_nil]; exact hs.tail⟩, ⟨congrArg (Value.int .u64) hw, trivial⟩, by repeat (first | exact Out.mix _ _ _ | refine Out.updo rfl ?_ | refine Out.upd rfl ?_ | refine Out.mixIn rfl ?_)⟩
  ·
   intro h37; have g37 := of_decide_eq_false h37
   obtain rfl : k = m.eps.length := by omega
   rw [List.drop_length, List.take_length] at *; have hd6 : B.drop p = zB4 m.obs.length ++ (obB (m.obs.drop 0) ++ []) := hd; refine zAc rfl rfl rfl h37 ?_; refine zAc rfl rfl rfl h37 ?_; refine zAc rfl rfl rfl h37 ?_; refine zA rfl (zAk (v := .bool _) rfl h37 rfl) ?_; refine zA4 ?_; refine zAx rfl rfl ?_; refine zBg rfl ?_; refine zA6 ?_; refine zA6 (zA1 ?_); refine zA rfl (zA0 (v := .pointer (some _)) rfl) ?_; refine zAb rfl zDr (zBs (most := 8) hW hs (by omega) hd6 (by omega) (by omega)) ?_; clear hs; rintro _ w ⟨rfl, hs⟩; have hd7 : B.drop (p + (zB4 m.obs.length).length) = _ := zBm hd6; generalize p + (zB4 m.obs.length).length = p7 at hs hd7
   refine zA rfl (zA2 (v := .int .u64 _) rfl) ?_; refine zA4 ?_; replace hs := (hs.addE (zEg 3 _)).arr [1, 0, 2, 3, 4] 5 (by decide); refine zAw ?_
   refine zBw (X := Nat × SA × Nat) [9, 59, 60, 61, 62, 63, 64, 65, 66, 67, 68, 69, 70, 71, 72, 73, 74, 75, 76, 77, 78, 79, 80, 81, 82] (fun q => [(9, .int .u64 ((m.obs.length - q.1 : Nat) : Int))]) (fun q w => q.1 ≤ m.obs.length ∧ B.drop q.2.2 = obB (m.obs.drop q.1) ++ [] ∧ Mem g w (zFc rb ad B (q.2.2, 0) :: zFp 3 (.slice q.2.1.1 q.1 q.2.1.2) ((m.obs.take q.1).map obL) :: zFp 2 (.slice s.1 m.eps.length s.2) (m.eps.map prL) :: cells b7 [.int .i64 m.id, .int .i64 m.base, .int .i64 m.fin, .int .i64 m.time, .slice s.1 m.eps.length s.2, .slice q.2.1.1 q.1 q.2.1.2] 39 :: cells b2 [.int .i64 0, .int .i64 0, .int .i64 0, .int .i64 0, .slice none 0 0, .slice none 0 0] 39 :: L)) (fun q => m.obs.length - q.1) ((0, (none, 0), p7)) ?_ ?_ ?_
   · exact ⟨rfl, trivial⟩
   · exact ⟨Nat.zero_le _, hd7, hs⟩
   clear hs; rintro x ξ w hI; obtain ⟨k, s', p'⟩ := x; obtain ⟨hk, hd, hs⟩ := hI; simp only at hk hd hs
   show cw _ _ _ _ _ _ (updL (mix _ ξ _) [(9, .int .u64 ((m.obs.length - k : Nat) : Int))]) w
   refine zA6 ?_; refine zA6 (zA1 ?_); refine zA rfl (zA0 (v := .int .u64 _) rfl) ?_; refine zA rfl (zBi rfl rfl) ?_; refine zA rfl (zA0 (v := .bool _) rfl) ?_; refine zBa (t := _) (d := 61) rfl ?_ ?_
   ·
    intro h60; have g60 := of_decide_eq_true h60; obtain ⟨y, hy⟩ : ∃ y, m.obs[k]? = some y := ⟨_, List.getElem?_eq_getElem (by omega)⟩; have hpy := hF.ob y (List.mem_of_getElem? hy); have hpo := ob_fine hpy; have huy := hu y (List.mem_of_getElem? hy); have hol := ob_short hpy; have hys : y.1.size = y.1.data.toList.length := Array.length_toList.symm; rw [obB_drop hy, List.append_assoc, List.append_assoc, List.append_assoc, List.append_assoc, hys] at hd; refine zAi rfl rfl h60 ?_; refine zA rfl (zA0 (v := .pointer (some _)) rfl) ?_; refine zAi rfl rfl h60 ?_; refine zAb rfl en70 (errOK_sl hs) ?_; clear hs; rintro _ w ⟨rfl, hs⟩; refine zAi rfl rfl h60 ?_; refine zA rfl (zEf rfl) ?_
    refine zA rfl (zAj (v := .bool _) rfl h60 rfl) ?_; refine zA4 ?_; refine zBb rfl (rfl) ?_; refine zAf ?_; refine zA6 ?_; refine zAw ?_; refine zAy zBv (hs.suffix 5 rfl) ?_; intro w tr hK; replace hs := tr _ hs; clear tr; refine zA5 0 rfl rfl (fun w hs => zA3 (o' := 5) zBx rfl zCt rfl rfl rfl) hK ?_; refine zA5 2 rfl rfl (fun w hs => zA0 (v := .pointer (some _)) rfl) hK ?_; refine zA5 5 rfl rfl (fun w hs => zA0 (v := .pointer (some _)) rfl) hK ?_; refine zA5 8 rfl rfl (fun w hs => zA0 (v := .pointer (some _)) rfl) hK ?_; refine zA9 [1, 3] ?_; refine ⟨⟨_, rfl, ?_⟩, ⟨_, rfl, ?_⟩, trivial⟩
    ·
     refine zA rfl (zA8 zBp rfl rfl (hs.cellAt 3 rfl rfl)) ?_; clear hK; have hK := (show Mem g w L from by first | exact hs.suffix 5 rfl | exact hs.suffix 6 rfl | exact hs.suffix 7 rfl); refine zA4 ⟨hK, ?_⟩; refine zA9 [3] ?_; refine ⟨⟨_, rfl, ?_⟩, trivial⟩; refine zAb rfl en112 (bytesOK_sl (most := 64) hW hs (by omega) hd (by omega) (by omega)) ?_; clear hs; rintro _ w ⟨⟨sa71, sc71⟩, rfl, hs⟩; have he1 : B.drop (p' + (zB4 y.1.data.toList.length).length + y.1.data.toList.length) = _ := zBm (zBm hd); generalize p' + (zB4 y.1.data.toList.length).length + y.1.data.toList.length = q1 at hs he1; obtain ⟨b71, o71, hb71, hc71⟩ := hs.ownCells 0 rfl (by rw [zAu]; omega); simp only at hb71
     subst hb71; clear hc71; replace hs := hs.arr [1, 0, 2, 3, 4, 5] 6 (by decide); clear hK; have hK := hs.suffix 6 rfl; refine zA4 ⟨hK, ?_⟩; refine zA9 [4, 6] ?_; refine ⟨⟨_, rfl, ?_⟩, ⟨_, rfl, ?_⟩, trivial⟩
     ·
      refine zA rfl (zCe zC0 uz5 uz9 rfl rfl (fun j v hj => hs.ownAt 1 rfl hj)) ?_; clear hK; have hK := hs.suffix 6 rfl; refine zA4 ⟨hK, ?_⟩; refine zA9 [6] ?_; refine ⟨⟨_, rfl, ?_⟩, trivial⟩; refine zAb rfl zDr (zBs (most := 4611686018427387904) hW hs (by omega) he1 (by omega) (by omega)) ?_; clear hs; rintro _ w ⟨rfl, hs⟩; have he2 : B.drop (q1 + (zB4 y.2.1.toNat).length) = _ := zBm he1; generalize q1 + (zB4 y.2.1.toNat).length = q2 at hs he2; clear hK; have hK := hs.suffix 6 rfl; refine zA4 ⟨hK, ?_⟩; refine zA5 7 rfl rfl (fun w hs => zAh zBj uz3 rfl (c := y.2.1) (wrapZ hpo.1 (by omega))) hK ?_; refine zA9 [9] ?_; refine ⟨⟨_, rfl, ?_⟩, trivial⟩
      refine zAb rfl zDr (zBs (most := 4294967295) hW hs (by omega) he2 (by omega) (by omega)) ?_; clear hs; rintro _ w ⟨rfl, hs⟩; have he3 : B.drop (q2 + (zB4 y.2.2).length) = _ := zBm he2; generalize q2 + (zB4 y.2.2).length = q3 at hs he3; clear hK; have hK := hs.suffix 6 rfl; refine zA4 ⟨hK, ?_⟩; refine zA5 10 rfl rfl (fun w hs => zAh zBj zDg rfl (c := ((y.2.2 : Nat) : Int)) (by simp [IntKind.wrap, IntKind.bits, IntKind.signed]; omega)) hK ?_; refine zA5 11 rfl rfl (fun w hs => zB3 ([.string y.1, .int .i64 y.2.1, .int .u32 ((y.2.2 : Nat) : Int)]) zCl zDi zDt rfl (by simp [Value.cells]) rfl rfl) hK ?_; refine zA9 [12] ?_; refine ⟨⟨_, rfl, ?_⟩, trivial⟩
      refine zAz hs rfl (row := obL y) zBp zsOb rfl (zBr y.1 y.2.1 y.2.2) (by decide) (by decide) ?_; clear hs; intro b80 w hs; clear hK; have hK := hs.suffix 7 rfl; refine zA4 ⟨hK, ?_⟩; refine zA9 [13] ?_; refine ⟨⟨_, rfl, ?_⟩, trivial⟩; refine zAv hs rfl 3 0 rfl rfl zBp zBp zD8 rfl rfl (by rfl) rfl rfl (by simp only [List.length_map, List.length_take]; omega) (by simp only [List.length_map, List.length_take]; omega) ?_; clear hs; intro a81 c81 w hs; simp only [List.set_cons_succ, List.set_cons_zero] at hs; clear hK; have hK := hs.suffix 7 rfl; refine zA4 ⟨hK, ?_⟩; refine zA5 14 rfl rfl (fun w hs => zA3 (o' := 5) zBx rfl zCt rfl rfl rfl) hK ?_; refine zA9 [15] ?_
      refine ⟨⟨_, rfl, ?_⟩, trivial⟩; refine zAr (v := .slice _ _ _) hs 5 rfl zCt rfl rfl rfl rfl ?_; clear hs; intro w hs
      try simp only [List.set_cons_succ, List.set_cons_zero] at hs
      clear hK; have hK := hs.suffix 7 rfl; refine zA4 ⟨hK, ?_⟩; refine zAp (by kernel_rfl) ?_; clear hK; refine zA1 ?_; refine zA rfl (zA0 (v := .int .u64 _) rfl) ?_; refine zA rfl (zBo rfl rfl) ?_; refine zA rfl (zA2 (v := .int .u64 _) rfl) ?_; refine zA4 ?_
      have hw : IntKind.u64.wrap (((m.obs.length - k : Nat) : Int) - 1) = ((m.obs.length - (k + 1) : Nat) : Int) := by rw [zB]; omega
      have hl : ((m.obs.take k).map obL).length = k := by rw [List.length_map, List.length_take]; omega
      rw [hl] at hs; exact ⟨(k + 1, (a81, c81), q3), by simp only; omega, ⟨by simp only; omega, he3, by simp only [List.take_add_one, hy, Option.toList, List.map_append, List.map_cons, List.map_nil]; exact hs.arr [1, 3, 4, 5, 6] 7 (by decide)⟩, ⟨congrArg (Value.int .u64) hw, trivial⟩, by repeat (first | exact Out.mix _ _ _ | refine Out.updo rfl ?_ | refine Out.upd rfl ?_ | refine Out.mixIn rfl ?_)⟩
     ·
      refine zAb rfl zDr (zBs (most := 4611686018427387904) hW hs (by omega) he1 (by omega) (by omega)) ?_; clear hs; rintro _ w ⟨rfl, hs⟩; have he2 : B.drop (q1 + (zB4 y.2.1.toNat).length) = _ := zBm he1; generalize q1 + (zB4 y.2.1.toNat).length = q2 at hs he2; clear hK; have hK := hs.suffix 6 rfl; refine zA4 ⟨hK, ?_⟩; refine zA5 7 rfl rfl (fun w hs => zAh zBj uz3 rfl (c := y.2.1) (wrapZ hpo.1 (by omega))) hK ?_; refine zA9 [4, 9] ?_; refine ⟨⟨_, rfl, ?_⟩, ⟨_, rfl, ?_⟩, trivial⟩
      ·
       refine zA rfl (zCe zC0 uz5 uz9 rfl rfl (fun j v hj => hs.ownAt 1 rfl hj)) ?_; clear hK; have hK := hs.suffix 6 rfl; refine zA4 ⟨hK, ?_⟩; refine zA9 [9] ?_; refine ⟨⟨_, rfl, ?_⟩, trivial⟩; refine zAb rfl zDr (zBs (most := 4294967295) hW hs (by omega) he2 (by omega) (by omega)) ?_; clear hs; rintro _ w ⟨rfl, hs⟩; have he3 : B.drop (q2 + (zB4 y.2.2).length) = _ := zBm he2; generalize q2 + (zB4 y.2.2).length = q3 at hs he3; clear hK; have hK := hs.suffix 6 rfl; refine zA4 ⟨hK, ?_⟩; refine zA5 10 rfl rfl (fun w hs => zAh zBj zDg rfl (c := ((y.2.2 : Nat) : Int)) (by simp [IntKind.wrap, IntKind.bits, IntKind.signed]; omega)) hK ?_
       refine zA5 11 rfl rfl (fun w hs => zB3 ([.string y.1, .int .i64 y.2.1, .int .u32 ((y.2.2 : Nat) : Int)]) zCl zDi zDt rfl (by simp [Value.cells]) rfl rfl) hK ?_; refine zA9 [12] ?_; refine ⟨⟨_, rfl, ?_⟩, trivial⟩; refine zAz hs rfl (row := obL y) zBp zsOb rfl (zBr y.1 y.2.1 y.2.2) (by decide) (by decide) ?_; clear hs; intro b80 w hs; clear hK; have hK := hs.suffix 7 rfl; refine zA4 ⟨hK, ?_⟩; refine zA9 [13] ?_; refine ⟨⟨_, rfl, ?_⟩, trivial⟩; refine zAv hs rfl 3 0 rfl rfl zBp zBp zD8 rfl rfl (by rfl) rfl rfl (by simp only [List.length_map, List.length_take]; omega) (by simp only [List.length_map, List.length_take]; omega) ?_; clear hs; intro a81 c81 w hs
       simp only [List.set_cons_succ, List.set_cons_zero] at hs; clear hK; have hK := hs.suffix 7 rfl; refine zA4 ⟨hK, ?_⟩; refine zA5 14 rfl rfl (fun w hs => zA3 (o' := 5) zBx rfl zCt rfl rfl rfl) hK ?_; refine zA9 [15] ?_; refine ⟨⟨_, rfl, ?_⟩, trivial⟩; refine zAr (v := .slice _ _ _) hs 5 rfl zCt rfl rfl rfl rfl ?_; clear hs; intro w hs
       try simp only [List.set_cons_succ, List.set_cons_zero] at hs
       clear hK; have hK := hs.suffix 7 rfl; refine zA4 ⟨hK, ?_⟩; refine zAp (by kernel_rfl) ?_; clear hK; refine zA1 ?_; refine zA rfl (zA0 (v := .int .u64 _) rfl) ?_; refine zA rfl (zBo rfl rfl) ?_; refine zA rfl (zA2 (v := .int .u64 _) rfl) ?_; refine zA4 ?_
       have hw : IntKind.u64.wrap (((m.obs.length - k : Nat) : Int) - 1) = ((m.obs.length - (k + 1) : Nat) : Int) := by rw [zB]; omega
       have hl : ((m.obs.take k).map obL).length = k := by rw [List.length_map, List.length_take]; omega
       rw [hl] at hs; exact ⟨(k + 1, (a81, c81), q3), by simp only; omega, ⟨by simp only; omega, he3, by simp only [List.take_add_one, hy, Option.toList, List.map_append, List.map_cons, List.map_nil]; exact hs.arr [1, 3, 4, 5, 6] 7 (by decide)⟩, ⟨congrArg (Value.int .u64) hw, trivial⟩, by repeat (first | exact Out.mix _ _ _ | refine Out.updo rfl ?_ | refine Out.upd rfl ?_ | refine Out.mixIn rfl ?_)⟩
      ·
       refine zAb rfl zDr (zBs (most := 4294967295) hW hs (by omega) he2 (by omega) (by omega)) ?_; clear hs; rintro _ w ⟨rfl, hs⟩; have he3 : B.drop (q2 + (zB4 y.2.2).length) = _ := zBm he2; generalize q2 + (zB4 y.2.2).length = q3 at hs he3; clear hK; have hK := hs.suffix 6 rfl; refine zA4 ⟨hK, ?_⟩; refine zA5 10 rfl rfl (fun w hs => zAh zBj zDg rfl (c := ((y.2.2 : Nat) : Int)) (by simp [IntKind.wrap, IntKind.bits, IntKind.signed]; omega)) hK ?_; refine zA9 [4] ?_; refine ⟨⟨_, rfl, ?_⟩, trivial⟩; refine zA rfl (zCe zC0 uz5 uz9 rfl rfl (fun j v hj => hs.ownAt 1 rfl hj)) ?_; clear hK; have hK := hs.suffix 6 rfl; refine zA4 ⟨hK, ?_⟩
       refine zA5 11 rfl rfl (fun w hs => zB3 ([.string y.1, .int .i64 y.2.1, .int .u32 ((y.2.2 : Nat) : Int)]) zCl zDi zDt rfl (by simp [Value.cells]) rfl rfl) hK ?_; refine zA9 [12] ?_; refine ⟨⟨_, rfl, ?_⟩, trivial⟩; refine zAz hs rfl (row := obL y) zBp zsOb rfl (zBr y.1 y.2.1 y.2.2) (by decide) (by decide) ?_; clear hs; intro b80 w hs; clear hK; have hK := hs.suffix 7 rfl; refine zA4 ⟨hK, ?_⟩; refine zA9 [13] ?_; refine ⟨⟨_, rfl, ?_⟩, trivial⟩; refine zAv hs rfl 3 0 rfl rfl zBp zBp zD8 rfl rfl (by rfl) rfl rfl (by simp only [List.length_map, List.length_take]; omega) (by simp only [List.length_map, List.length_take]; omega) ?_; clear hs; intro a81 c81 w hs
       simp only [List.set_cons_succ, List.set_cons_zero] at hs; clear hK; have hK := hs.suffix 7 rfl; refine zA4 ⟨hK, ?_⟩; refine zA5 14 rfl rfl (fun w hs => zA3 (o' := 5) zBx rfl zCt rfl rfl rfl) hK ?_; refine zA9 [15] ?_; refine ⟨⟨_, rfl, ?_⟩, trivial⟩; refine zAr (v := .slice _ _ _) hs 5 rfl zCt rfl rfl rfl rfl ?_; clear hs; intro w hs
       try simp only [List.set_cons_succ, List.set_cons_zero] at hs
       clear hK; have hK := hs.suffix 7 rfl; refine zA4 ⟨hK, ?_⟩; refine zAp (by kernel_rfl) ?_; clear hK; refine zA1 ?_; refine zA rfl (zA0 (v := .int .u64 _) rfl) ?_; refine zA rfl (zBo rfl rfl) ?_; refine zA rfl (zA2 (v := .int .u64 _) rfl) ?_; refine zA4 ?_
       have hw : IntKind.u64.wrap (((m.obs.length - k : Nat) : Int) - 1) = ((m.obs.length - (k + 1) : Nat) : Int) := by rw [zB]; omega
       have hl : ((m.obs.take k).map obL).length = k := by rw [List.length_map, List.length_take]; omega
       rw [hl] at hs; exact ⟨(k + 1, (a81, c81), q3), by simp only; omega, ⟨by simp only; omega, he3, by simp only [List.take_add_one, hy, Option.toList, List.map_append, List.map_cons, List.map_nil]; exact hs.arr [1, 3, 4, 5, 6] 7 (by decide)⟩, ⟨congrArg (Value.int .u64) hw, trivial⟩, by repeat (first | exact Out.mix _ _ _ | refine Out.updo rfl ?_ | refine Out.upd rfl ?_ | refine Out.mixIn rfl ?_)⟩
    ·
     refine zAb rfl en112 (bytesOK_sl (most := 64) hW hs (by omega) hd (by omega) (by omega)) ?_; clear hs; rintro _ w ⟨⟨sa71, sc71⟩, rfl, hs⟩; have he1 : B.drop (p' + (zB4 y.1.data.toList.length).length + y.1.data.toList.length) = _ := zBm (zBm hd); generalize p' + (zB4 y.1.data.toList.length).length + y.1.data.toList.length = q1 at hs he1; obtain ⟨b71, o71, hb71, hc71⟩ := hs.ownCells 0 rfl (by rw [zAu]; omega); simp only at hb71; subst hb71; clear hc71; replace hs := hs.arr [1, 0, 2, 3, 4, 5] 6 (by decide); clear hK; have hK := hs.suffix 6 rfl; refine zA4 ⟨hK, ?_⟩; refine zA9 [1, 4, 6] ?_; refine ⟨⟨_, rfl, ?_⟩, ⟨_, rfl, ?_⟩, ⟨_, rfl, ?_⟩, trivial⟩
     ·
      refine zA rfl (zA8 zBp rfl rfl (hs.cellAt 4 rfl rfl)) ?_; clear hK; have hK := (show Mem g w L from by first | exact hs.suffix 5 rfl | exact hs.suffix 6 rfl | exact hs.suffix 7 rfl); refine zA4 ⟨hK, ?_⟩; refine zA9 [4, 6] ?_; refine ⟨⟨_, rfl, ?_⟩, ⟨_, rfl, ?_⟩, trivial⟩
      ·
       refine zA rfl (zCe zC0 uz5 uz9 rfl rfl (fun j v hj => hs.ownAt 1 rfl hj)) ?_; clear hK; have hK := hs.suffix 6 rfl; refine zA4 ⟨hK, ?_⟩; refine zA9 [6] ?_; refine ⟨⟨_, rfl, ?_⟩, trivial⟩; refine zAb rfl zDr (zBs (most := 4611686018427387904) hW hs (by omega) he1 (by omega) (by omega)) ?_; clear hs; rintro _ w ⟨rfl, hs⟩; have he2 : B.drop (q1 + (zB4 y.2.1.toNat).length) = _ := zBm he1; generalize q1 + (zB4 y.2.1.toNat).length = q2 at hs he2; clear hK; have hK := hs.suffix 6 rfl; refine zA4 ⟨hK, ?_⟩; refine zA5 7 rfl rfl (fun w hs => zAh zBj uz3 rfl (c := y.2.1) (wrapZ hpo.1 (by omega))) hK ?_; refine zA9 [9] ?_; refine ⟨⟨_, rfl, ?_⟩, trivial⟩
       refine zAb rfl zDr (zBs (most := 4294967295) hW hs (by omega) he2 (by omega) (by omega)) ?_; clear hs; rintro _ w ⟨rfl, hs⟩; have he3 : B.drop (q2 + (zB4 y.2.2).length) = _ := zBm he2; generalize q2 + (zB4 y.2.2).length = q3 at hs he3; clear hK; have hK := hs.suffix 6 rfl; refine zA4 ⟨hK, ?_⟩; refine zA5 10 rfl rfl (fun w hs => zAh zBj zDg rfl (c := ((y.2.2 : Nat) : Int)) (by simp [IntKind.wrap, IntKind.bits, IntKind.signed]; omega)) hK ?_; refine zA5 11 rfl rfl (fun w hs => zB3 ([.string y.1, .int .i64 y.2.1, .int .u32 ((y.2.2 : Nat) : Int)]) zCl zDi zDt rfl (by simp [Value.cells]) rfl rfl) hK ?_; refine zA9 [12] ?_; refine ⟨⟨_, rfl, ?_⟩, trivial⟩
       refine zAz hs rfl (row := obL y) zBp zsOb rfl (zBr y.1 y.2.1 y.2.2) (by decide) (by decide) ?_; clear hs; intro b80 w hs; clear hK; have hK := hs.suffix 7 rfl; refine zA4 ⟨hK, ?_⟩; refine zA9 [13] ?_; refine ⟨⟨_, rfl, ?_⟩, trivial⟩; refine zAv hs rfl 3 0 rfl rfl zBp zBp zD8 rfl rfl (by rfl) rfl rfl (by simp only [List.length_map, List.length_take]; omega) (by simp only [List.length_map, List.length_take]; omega) ?_; clear hs; intro a81 c81 w hs; simp only [List.set_cons_succ, List.set_cons_zero] at hs; clear hK; have hK := hs.suffix 7 rfl; refine zA4 ⟨hK, ?_⟩; refine zA5 14 rfl rfl (fun w hs => zA3 (o' := 5) zBx rfl zCt rfl rfl rfl) hK ?_; refine zA9 [15] ?_
       refine ⟨⟨_, rfl, ?_⟩, trivial⟩; refine zAr (v := .slice _ _ _) hs 5 rfl zCt rfl rfl rfl rfl ?_; clear hs; intro w hs
       try simp only [List.set_cons_succ, List.set_cons_zero] at hs
       clear hK; have hK := hs.suffix 7 rfl; refine zA4 ⟨hK, ?_⟩; refine zAp (by kernel_rfl) ?_; clear hK; refine zA1 ?_; refine zA rfl (zA0 (v := .int .u64 _) rfl) ?_; refine zA rfl (zBo rfl rfl) ?_; refine zA rfl (zA2 (v := .int .u64 _) rfl) ?_; refine zA4 ?_
       have hw : IntKind.u64.wrap (((m.obs.length - k : Nat) : Int) - 1) = ((m.obs.length - (k + 1) : Nat) : Int) := by rw [zB]; omega
       have hl : ((m.obs.take k).map obL).length = k := by rw [List.length_map, List.length_take]; omega
       rw [hl] at hs; exact ⟨(k + 1, (a81, c81), q3), by simp only; omega, ⟨by simp only; omega, he3, by simp only [List.take_add_one, hy, Option.toList, List.map_append, List.map_cons, List.map_nil]; exact hs.arr [1, 3, 4, 5, 6] 7 (by decide)⟩, ⟨congrArg (Value.int .u64) hw, trivial⟩, by repeat (first | exact Out.mix _ _ _ | refine Out.updo rfl ?_ | refine Out.upd rfl ?_ | refine Out.mixIn rfl ?_)⟩
      ·
       refine zAb rfl zDr (zBs (most := 4611686018427387904) hW hs (by omega) he1 (by omega) (by omega)) ?_; clear hs; rintro _ w ⟨rfl, hs⟩; have he2 : B.drop (q1 + (zB4 y.2.1.toNat).length) = _ := zBm he1; generalize q1 + (zB4 y.2.1.toNat).length = q2 at hs he2; clear hK; have hK := hs.suffix 6 rfl; refine zA4 ⟨hK, ?_⟩; refine zA5 7 rfl rfl (fun w hs => zAh zBj uz3 rfl (c := y.2.1) (wrapZ hpo.1 (by omega))) hK ?_; refine zA9 [4, 9] ?_; refine ⟨⟨_, rfl, ?_⟩, ⟨_, rfl, ?_⟩, trivial⟩
       ·
        refine zA rfl (zCe zC0 uz5 uz9 rfl rfl (fun j v hj => hs.ownAt 1 rfl hj)) ?_; clear hK; have hK := hs.suffix 6 rfl; refine zA4 ⟨hK, ?_⟩; refine zA9 [9] ?_; refine ⟨⟨_, rfl, ?_⟩, trivial⟩; refine zAb rfl zDr (zBs (most := 4294967295) hW hs (by omega) he2 (by omega) (by omega)) ?_; clear hs; rintro _ w ⟨rfl, hs⟩; have he3 : B.drop (q2 + (zB4 y.2.2).length) = _ := zBm he2; generalize q2 + (zB4 y.2.2).length = q3 at hs he3; clear hK; have hK := hs.suffix 6 rfl; refine zA4 ⟨hK, ?_⟩; refine zA5 10 rfl rfl (fun w hs => zAh zBj zDg rfl (c := ((y.2.2 : Nat) : Int)) (by simp [IntKind.wrap, IntKind.bits, IntKind.signed]; omega)) hK ?_
        refine zA5 11 rfl rfl (fun w hs => zB3 ([.string y.1, .int .i64 y.2.1, .int .u32 ((y.2.2 : Nat) : Int)]) zCl zDi zDt rfl (by simp [Value.cells]) rfl rfl) hK ?_; refine zA9 [12] ?_; refine ⟨⟨_, rfl, ?_⟩, trivial⟩; refine zAz hs rfl (row := obL y) zBp zsOb rfl (zBr y.1 y.2.1 y.2.2) (by decide) (by decide) ?_; clear hs; intro b80 w hs; clear hK; have hK := hs.suffix 7 rfl; refine zA4 ⟨hK, ?_⟩; refine zA9 [13] ?_; refine ⟨⟨_, rfl, ?_⟩, trivial⟩; refine zAv hs rfl 3 0 rfl rfl zBp zBp zD8 rfl rfl (by rfl) rfl rfl (by simp only [List.length_map, List.length_take]; omega) (by simp only [List.length_map, List.length_take]; omega) ?_; clear hs; intro a81 c81 w hs
        simp only [List.set_cons_succ, List.set_cons_zero] at hs; clear hK; have hK := hs.suffix 7 rfl; refine zA4 ⟨hK, ?_⟩; refine zA5 14 rfl rfl (fun w hs => zA3 (o' := 5) zBx rfl zCt rfl rfl rfl) hK ?_; refine zA9 [15] ?_; refine ⟨⟨_, rfl, ?_⟩, trivial⟩; refine zAr (v := .slice _ _ _) hs 5 rfl zCt rfl rfl rfl rfl ?_; clear hs; intro w hs
        try simp only [List.set_cons_succ, List.set_cons_zero] at hs
        clear hK; have hK := hs.suffix 7 rfl; refine zA4 ⟨hK, ?_⟩; refine zAp (by kernel_rfl) ?_; clear hK; refine zA1 ?_; refine zA rfl (zA0 (v := .int .u64 _) rfl) ?_; refine zA rfl (zBo rfl rfl) ?_; refine zA rfl (zA2 (v := .int .u64 _) rfl) ?_; refine zA4 ?_
        have hw : IntKind.u64.wrap (((m.obs.length - k : Nat) : Int) - 1) = ((m.obs.length - (k + 1) : Nat) : Int) := by rw [zB]; omega
        have hl : ((m.obs.take k).map obL).length = k := by rw [List.length_map, List.length_take]; omega
        rw [hl] at hs; exact ⟨(k + 1, (a81, c81), q3), by simp only; omega, ⟨by simp only; omega, he3, by simp only [List.take_add_one, hy, Option.toList, List.map_append, List.map_cons, List.map_nil]; exact hs.arr [1, 3, 4, 5, 6] 7 (by decide)⟩, ⟨congrArg (Value.int .u64) hw, trivial⟩, by repeat (first | exact Out.mix _ _ _ | refine Out.updo rfl ?_ | refine Out.upd rfl ?_ | refine Out.mixIn rfl ?_)⟩
       ·
        refine zAb rfl zDr (zBs (most := 4294967295) hW hs (by omega) he2 (by omega) (by omega)) ?_; clear hs; rintro _ w ⟨rfl, hs⟩; have he3 : B.drop (q2 + (zB4 y.2.2).length) = _ := zBm he2; generalize q2 + (zB4 y.2.2).length = q3 at hs he3; clear hK; have hK := hs.suffix 6 rfl; refine zA4 ⟨hK, ?_⟩; refine zA5 10 rfl rfl (fun w hs => zAh zBj zDg rfl (c := ((y.2.2 : Nat) : Int)) (by simp [IntKind.wrap, IntKind.bits, IntKind.signed]; omega)) hK ?_; refine zA9 [4] ?_; refine ⟨⟨_, rfl, ?_⟩, trivial⟩; refine zA rfl (zCe zC0 uz5 uz9 rfl rfl (fun j v hj => hs.ownAt 1 rfl hj)) ?_; clear hK; have hK := hs.suffix 6 rfl; refine zA4 ⟨hK, ?_⟩
        refine zA5 11 rfl rfl (fun w hs => zB3 ([.string y.1, .int .i64 y.2.1, .int .u32 ((y.2.2 : Nat) : Int)]) zCl zDi zDt rfl (by simp [Value.cells]) rfl rfl) hK ?_; refine zA9 [12] ?_; refine ⟨⟨_, rfl, ?_⟩, trivial⟩; refine zAz hs rfl (row := obL y) zBp zsOb rfl (zBr y.1 y.2.1 y.2.2) (by decide) (by decide) ?_; clear hs; intro b80 w hs; clear hK; have hK := hs.suffix 7 rfl; refine zA4 ⟨hK, ?_⟩; refine zA9 [13] ?_; refine ⟨⟨_, rfl, ?_⟩, trivial⟩; refine zAv hs rfl 3 0 rfl rfl zBp zBp zD8 rfl rfl (by rfl) rfl rfl (by simp only [List.length_map, List.length_take]; omega) (by simp only [List.length_map, List.length_take]; omega) ?_; clear hs; intro a81 c81 w hs
        simp only [List.set_cons_succ, List.set_cons_zero] at hs; clear hK; have hK := hs.suffix 7 rfl; refine zA4 ⟨hK, ?_⟩; refine zA5 14 rfl rfl (fun w hs => zA3 (o' := 5) zBx rfl zCt rfl rfl rfl) hK ?_; refine zA9 [15] ?_; refine ⟨⟨_, rfl, ?_⟩, trivial⟩; refine zAr (v := .slice _ _ _) hs 5 rfl zCt rfl rfl rfl rfl ?_; clear hs; intro w hs
        try simp only [List.set_cons_succ, List.set_cons_zero] at hs
        clear hK; have hK := hs.suffix 7 rfl; refine zA4 ⟨hK, ?_⟩; refine zAp (by kernel_rfl) ?_; clear hK; refine zA1 ?_; refine zA rfl (zA0 (v := .int .u64 _) rfl) ?_; refine zA rfl (zBo rfl rfl) ?_; refine zA rfl (zA2 (v := .int .u64 _) rfl) ?_; refine zA4 ?_
        have hw : IntKind.u64.wrap (((m.obs.length - k : Nat) : Int) - 1) = ((m.obs.length - (k + 1) : Nat) : Int) := by rw [zB]; omega
        have hl : ((m.obs.take k).map obL).length = k := by rw [List.length_map, List.length_take]; omega
        rw [hl] at hs; exact ⟨(k + 1, (a81, c81), q3), by simp only; omega, ⟨by simp only; omega, he3, by simp only [List.take_add_one, hy, Option.toList, List.map_append, List.map_cons, List.map_nil]; exact hs.arr [1, 3, 4, 5, 6] 7 (by decide)⟩, ⟨congrArg (Value.int .u64) hw, trivial⟩, by repeat (first | exact Out.mix _ _ _ | refine Out.updo rfl ?_ | refine Out.upd rfl ?_ | refine Out.mixIn rfl ?_)⟩
     ·
      refine zA rfl (zCe zC0 uz5 uz9 rfl rfl (fun j v hj => hs.ownAt 1 rfl hj)) ?_; clear hK; have hK := hs.suffix 6 rfl; refine zA4 ⟨hK, ?_⟩; refine zA9 [1, 6] ?_; refine ⟨⟨_, rfl, ?_⟩, ⟨_, rfl, ?_⟩, trivial⟩
      ·
       refine zA rfl (zA8 zBp rfl rfl (hs.cellAt 4 rfl rfl)) ?_; clear hK; have hK := (show Mem g w L from by first | exact hs.suffix 5 rfl | exact hs.suffix 6 rfl | exact hs.suffix 7 rfl); refine zA4 ⟨hK, ?_⟩; refine zA9 [6] ?_; refine ⟨⟨_, rfl, ?_⟩, trivial⟩; refine zAb rfl zDr (zBs (most := 4611686018427387904) hW hs (by omega) he1 (by omega) (by omega)) ?_; clear hs; rintro _ w ⟨rfl, hs⟩; have he2 : B.drop (q1 + (zB4 y.2.1.toNat).length) = _ := zBm he1; generalize q1 + (zB4 y.2.1.toNat).length = q2 at hs he2; clear hK; have hK := hs.suffix 6 rfl; refine zA4 ⟨hK, ?_⟩; refine zA5 7 rfl rfl (fun w hs => zAh zBj uz3 rfl (c := y.2.1) (wrapZ hpo.1 (by omega))) hK ?_; refine zA9 [9] ?_
       refine ⟨⟨_, rfl, ?_⟩, trivial⟩; refine zAb rfl zDr (zBs (most := 4294967295) hW hs (by omega) he2 (by omega) (by omega)) ?_; clear hs; rintro _ w ⟨rfl, hs⟩; have he3 : B.drop (q2 + (zB4 y.2.2).length) = _ := zBm he2; generalize q2 + (zB4 y.2.2).length = q3 at hs he3; clear hK; have hK := hs.suffix 6 rfl; refine zA4 ⟨hK, ?_⟩; refine zA5 10 rfl rfl (fun w hs => zAh zBj zDg rfl (c := ((y.2.2 : Nat) : Int)) (by simp [IntKind.wrap, IntKind.bits, IntKind.signed]; omega)) hK ?_; refine zA5 11 rfl rfl (fun w hs => zB3 ([.string y.1, .int .i64 y.2.1, .int .u32 ((y.2.2 : Nat) : Int)]) zCl zDi zDt rfl (by simp [Value.cells]) rfl rfl) hK ?_; refine zA9 [12] ?_
       refine ⟨⟨_, rfl, ?_⟩, trivial⟩; refine zAz hs rfl (row := obL y) zBp zsOb rfl (zBr y.1 y.2.1 y.2.2) (by decide) (by decide) ?_; clear hs; intro b80 w hs; clear hK; have hK := hs.suffix 7 rfl; refine zA4 ⟨hK, ?_⟩; refine zA9 [13] ?_; refine ⟨⟨_, rfl, ?_⟩, trivial⟩; refine zAv hs rfl 3 0 rfl rfl zBp zBp zD8 rfl rfl (by rfl) rfl rfl (by simp only [List.length_map, List.length_take]; omega) (by simp only [List.length_map, List.length_take]; omega) ?_; clear hs; intro a81 c81 w hs; simp only [List.set_cons_succ, List.set_cons_zero] at hs; clear hK; have hK := hs.suffix 7 rfl; refine zA4 ⟨hK, ?_⟩; refine zA5 14 rfl rfl (fun w hs => zA3 (o' := 5) zBx rfl zCt rfl rfl rfl) hK ?_
       refine zA9 [15] ?_; refine ⟨⟨_, rfl, ?_⟩, trivial⟩; refine zAr (v := .slice _ _ _) hs 5 rfl zCt rfl rfl rfl rfl ?_; clear hs; intro w hs
       try simp only [List.set_cons_succ, List.set_cons_zero] at hs
       clear hK; have hK := hs.suffix 7 rfl; refine zA4 ⟨hK, ?_⟩; refine zAp (by kernel_rfl) ?_; clear hK; refine zA1 ?_; refine zA rfl (zA0 (v := .int .u64 _) rfl) ?_; refine zA rfl (zBo rfl rfl) ?_; refine zA rfl (zA2 (v := .int .u64 _) rfl) ?_; refine zA4 ?_
       have hw : IntKind.u64.wrap (((m.obs.length - k : Nat) : Int) - 1) = ((m.obs.length - (k + 1) : Nat) : Int) := by rw [zB]; omega
       have hl : ((m.obs.take k).map obL).length = k := by rw [List.length_map, List.length_take]; omega
       rw [hl] at hs; exact ⟨(k + 1, (a81, c81), q3), by simp only; omega, ⟨by simp only; omega, he3, by simp only [List.take_add_one, hy, Option.toList, List.map_append, List.map_cons, List.map_nil]; exact hs.arr [1, 3, 4, 5, 6] 7 (by decide)⟩, ⟨congrArg (Value.int .u64) hw, trivial⟩, by repeat (first | exact Out.mix _ _ _ | refine Out.updo rfl ?_ | refine Out.upd rfl ?_ | refine Out.mixIn rfl ?_)⟩
      ·
       refine zAb rfl zDr (zBs (most := 4611686018427387904) hW hs (by omega) he1 (by omega) (by omega)) ?_; clear hs; rintro _ w ⟨rfl, hs⟩; have he2 : B.drop (q1 + (zB4 y.2.1.toNat).length) = _ := zBm he1; generalize q1 + (zB4 y.2.1.toNat).length = q2 at hs he2; clear hK; have hK := hs.suffix 6 rfl; refine zA4 ⟨hK, ?_⟩; refine zA5 7 rfl rfl (fun w hs => zAh zBj uz3 rfl (c := y.2.1) (wrapZ hpo.1 (by omega))) hK ?_; refine zA9 [1, 9] ?_; refine ⟨⟨_, rfl, ?_⟩, ⟨_, rfl, ?_⟩, trivial⟩
       ·
        refine zA rfl (zA8 zBp rfl rfl (hs.cellAt 4 rfl rfl)) ?_; clear hK; have hK := (show Mem g w L from by first | exact hs.suffix 5 rfl | exact hs.suffix 6 rfl | exact hs.suffix 7 rfl); refine zA4 ⟨hK, ?_⟩; refine zA9 [9] ?_; refine ⟨⟨_, rfl, ?_⟩, trivial⟩; refine zAb rfl zDr (zBs (most := 4294967295) hW hs (by omega) he2 (by omega) (by omega)) ?_; clear hs; rintro _ w ⟨rfl, hs⟩; have he3 : B.drop (q2 + (zB4 y.2.2).length) = _ := zBm he2; generalize q2 + (zB4 y.2.2).length = q3 at hs he3; clear hK; have hK := hs.suffix 6 rfl; refine zA4 ⟨hK, ?_⟩
        refine zA5 10 rfl rfl (fun w hs => zAh zBj zDg rfl (c := ((y.2.2 : Nat) : Int)) (by simp [IntKind.wrap, IntKind.bits, IntKind.signed]; omega)) hK ?_; refine zA5 11 rfl rfl (fun w hs => zB3 ([.string y.1, .int .i64 y.2.1, .int .u32 ((y.2.2 : Nat) : Int)]) zCl zDi zDt rfl (by simp [Value.cells]) rfl rfl) hK ?_; refine zA9 [12] ?_; refine ⟨⟨_, rfl, ?_⟩, trivial⟩; refine zAz hs rfl (row := obL y) zBp zsOb rfl (zBr y.1 y.2.1 y.2.2) (by decide) (by decide) ?_; clear hs; intro b80 w hs; clear hK; have hK := hs.suffix 7 rfl; refine zA4 ⟨hK, ?_⟩; refine zA9 [13] ?_; refine ⟨⟨_, rfl, ?_⟩, trivial⟩
        refine zAv hs rfl 3 0 rfl rfl zBp zBp zD8 rfl rfl (by rfl) rfl rfl (by simp only [List.length_map, List.length_take]; omega) (by simp only [List.length_map, List.length_take]; omega) ?_; clear hs; intro a81 c81 w hs; simp only [List.set_cons_succ, List.set_cons_zero] at hs; clear hK; have hK := hs.suffix 7 rfl; refine zA4 ⟨hK, ?_⟩; refine zA5 14 rfl rfl (fun w hs => zA3 (o' := 5) zBx rfl zCt rfl rfl rfl) hK ?_; refine zA9 [15] ?_; refine ⟨⟨_, rfl, ?_⟩, trivial⟩; refine zAr (v := .slice _ _ _) hs 5 rfl zCt rfl rfl rfl rfl ?_; clear hs; intro w hs
        try simp only [List.set_cons_succ, List.set_cons_zero] at hs
        clear hK; have hK := hs.suffix 7 rfl; refine zA4 ⟨hK, ?_⟩; refine zAp (by kernel_rfl) ?_; clear hK; refine zA1 ?_; refine zA rfl (zA0 (v := .int .u64 _) rfl) ?_; refine zA rfl (zBo rfl rfl) ?_; refine zA rfl (zA2 (v := .int .u64 _) rfl) ?_; refine zA4 ?_
        have hw : IntKind.u64.wrap (((m.obs.length - k : Nat) : Int) - 1) = ((m.obs.length - (k + 1) : Nat) : Int) := by rw [zB]; omega
        have hl : ((m.obs.take k).map obL).length = k := by rw [List.length_map, List.length_take]; omega
        rw [hl] at hs; exact ⟨(k + 1, (a81, c81), q3), by simp only; omega, ⟨by simp only; omega, he3, by simp only [List.take_add_one, hy, Option.toList, List.map_append, List.map_cons, List.map_nil]; exact hs.arr [1, 3, 4, 5, 6] 7 (by decide)⟩, ⟨congrArg (Value.int .u64) hw, trivial⟩, by repeat (first | exact Out.mix _ _ _ | refine Out.updo rfl ?_ | refine Out.upd rfl ?_ | refine Out.mixIn rfl ?_)⟩
       ·
        refine zAb rfl zDr (zBs (most := 4294967295) hW hs (by omega) he2 (by omega) (by omega)) ?_; clear hs; rintro _ w ⟨rfl, hs⟩; have he3 : B.drop (q2 + (zB4 y.2.2).length) = _ := zBm he2; generalize q2 + (zB4 y.2.2).length = q3 at hs he3; clear hK; have hK := hs.suffix 6 rfl; refine zA4 ⟨hK, ?_⟩; refine zA5 10 rfl rfl (fun w hs => zAh zBj zDg rfl (c := ((y.2.2 : Nat) : Int)) (by simp [IntKind.wrap, IntKind.bits, IntKind.signed]; omega)) hK ?_; refine zA5 11 rfl rfl (fun w hs => zB3 ([.string y.1, .int .i64 y.2.1, .int .u32 ((y.2.2 : Nat) : Int)]) zCl zDi zDt rfl (by simp [Value.cells]) rfl rfl) hK ?_; refine zA9 [1, 12] ?_; refine ⟨⟨_, rfl, ?_⟩, ⟨_, rfl, ?_⟩, trivial⟩
        ·
         refine zA rfl (zA8 zBp rfl rfl (hs.cellAt 4 rfl rfl)) ?_; clear hK; have hK := (show Mem g w L from by first | exact hs.suffix 5 rfl | exact hs.suffix 6 rfl | exact hs.suffix 7 rfl); refine zA4 ⟨hK, ?_⟩; refine zA9 [12] ?_; refine ⟨⟨_, rfl, ?_⟩, trivial⟩; refine zAz hs rfl (row := obL y) zBp zsOb rfl (zBr y.1 y.2.1 y.2.2) (by decide) (by decide) ?_; clear hs; intro b80 w hs; clear hK; have hK := hs.suffix 7 rfl; refine zA4 ⟨hK, ?_⟩; refine zA9 [13] ?_; refine ⟨⟨_, rfl, ?_⟩, trivial⟩; refine zAv hs rfl 3 0 rfl rfl zBp zBp zD8 rfl rfl (by rfl) rfl rfl (by simp only [List.length_map, List.length_take]; omega) (by simp only [List.length_map, List.length_take]; omega) ?_
         clear hs; intro a81 c81 w hs; simp only [List.set_cons_succ, List.set_cons_zero] at hs; clear hK; have hK := hs.suffix 7 rfl; refine zA4 ⟨hK, ?_⟩; refine zA5 14 rfl rfl (fun w hs => zA3 (o' := 5) zBx rfl zCt rfl rfl rfl) hK ?_; refine zA9 [15] ?_; refine ⟨⟨_, rfl, ?_⟩, trivial⟩; refine zAr (v := .slice _ _ _) hs 5 rfl zCt rfl rfl rfl rfl ?_; clear hs; intro w hs
         try simp only [List.set_cons_succ, List.set_cons_zero] at hs
         clear hK; have hK := hs.suffix 7 rfl; refine zA4 ⟨hK, ?_⟩; refine zAp (by kernel_rfl) ?_; clear hK; refine zA1 ?_; refine zA rfl (zA0 (v := .int .u64 _) rfl) ?_; refine zA rfl (zBo rfl rfl) ?_; refine zA rfl (zA2 (v := .int .u64 _) rfl) ?_; refine zA4 ?_
         have hw : IntKind.u64.wrap (((m.obs.length - k : Nat) : Int) - 1) = ((m.obs.length - (k + 1) : Nat) : Int) := by rw [zB]; omega
         have hl : ((m.obs.take k).map obL).length = k := by rw [List.length_map, List.length_take]; omega
         rw [hl] at hs; exact ⟨(k + 1, (a81, c81), q3), by simp only; omega, ⟨by simp only; omega, he3, by simp only [List.take_add_one, hy, Option.toList, List.map_append, List.map_cons, List.map_nil]; exact hs.arr [1, 3, 4, 5, 6] 7 (by decide)⟩, ⟨congrArg (Value.int .u64) hw, trivial⟩, by repeat (first | exact Out.mix _ _ _ | refine Out.updo rfl ?_ | refine Out.upd rfl ?_ | refine Out.mixIn rfl ?_)⟩
        ·
         refine zAz hs rfl (row := obL y) zBp zsOb rfl (zBr y.1 y.2.1 y.2.2) (by decide) (by decide) ?_; clear hs; intro b80 w hs; clear hK; have hK := hs.suffix 7 rfl; refine zA4 ⟨hK, ?_⟩; refine zA9 [1] ?_; refine ⟨⟨_, rfl, ?_⟩, trivial⟩; refine zA rfl (zA8 zBp rfl rfl (hs.cellAt 5 rfl rfl)) ?_; clear hK; have hK := (show Mem g w L from by first | exact hs.suffix 5 rfl | exact hs.suffix 6 rfl | exact hs.suffix 7 rfl); refine zA4 ⟨hK, ?_⟩; refine zA9 [13] ?_; refine ⟨⟨_, rfl, ?_⟩, trivial⟩; refine zAv hs rfl 3 0 rfl rfl zBp zBp zD8 rfl rfl (by rfl) rfl rfl (by simp only [List.length_map, List.length_take]; omega) (by simp only [List.length_map, List.length_take]; omega) ?_; clear hs
         intro a81 c81 w hs; simp only [List.set_cons_succ, List.set_cons_zero] at hs; clear hK; have hK := hs.suffix 7 rfl; refine zA4 ⟨hK, ?_⟩; refine zA5 14 rfl rfl (fun w hs => zA3 (o' := 5) zBx rfl zCt rfl rfl rfl) hK ?_; refine zA9 [15] ?_; refine ⟨⟨_, rfl, ?_⟩, trivial⟩; refine zAr (v := .slice _ _ _) hs 5 rfl zCt rfl rfl rfl rfl ?_; clear hs; intro w hs
         try simp only [List.set_cons_succ, List.set_cons_zero] at hs
         clear hK; have hK := hs.suffix 7 rfl; refine zA4 ⟨hK, ?_⟩; refine zAp (by kernel_rfl) ?_; clear hK; refine zA1 ?_; refine zA rfl (zA0 (v := .int .u64 _) rfl) ?_; refine zA rfl (zBo rfl rfl) ?_; refine zA rfl (zA2 (v := .int .u64 _) rfl) ?_; refine zA4 ?_
         have hw : IntKind.u64.wrap (((m.obs.length - k : Nat) : Int) - 1) = ((m.obs.length - (k + 1) : Nat) : Int) := by rw [zB]; omega
         have hl : ((m.obs.take k).map obL).length = k := by rw [List.length_map, List.length_take]; omega
         rw [hl] at hs; exact ⟨(k + 1, (a81, c81), q3), by simp only; omega, ⟨by simp only; omega, he3, by simp only [List.take_add_one, hy, Option.toList, List.map_append, List.map_cons, List.map_nil]; exact hs.arr [1, 3, 4, 5, 6] 7 (by decide)⟩, ⟨congrArg (Value.int .u64) hw, trivial⟩, by repeat (first | exact Out.mix _ _ _ | refine Out.updo rfl ?_ | refine Out.upd rfl ?_ | refine Out.mixIn rfl ?_)⟩
     ·
      refine zAb rfl zDr (zBs (most := 4611686018427387904) hW hs (by omega) he1 (by omega) (by omega)) ?_; clear hs; rintro _ w ⟨rfl, hs⟩; have he2 : B.drop (q1 + (zB4 y.2.1.toNat).length) = _ := zBm he1; generalize q1 + (zB4 y.2.1.toNat).length = q2 at hs he2; clear hK; have hK := hs.suffix 6 rfl; refine zA4 ⟨hK, ?_⟩; refine zA5 7 rfl rfl (fun w hs => zAh zBj uz3 rfl (c := y.2.1) (wrapZ hpo.1 (by omega))) hK ?_; refine zA9 [1, 4, 9] ?_; refine ⟨⟨_, rfl, ?_⟩, ⟨_, rfl, ?_⟩, ⟨_, rfl, ?_⟩, trivial⟩
      ·
       refine zA rfl (zA8 zBp rfl rfl (hs.cellAt 4 rfl rfl)) ?_; clear hK; have hK := (show Mem g w L from by first | exact hs.suffix 5 rfl | exact hs.suffix 6 rfl | exact hs.suffix 7 rfl); refine zA4 ⟨hK, ?_⟩; refine zA9 [4, 9] ?_; refine ⟨⟨_, rfl, ?_⟩, ⟨_, rfl, ?_⟩, trivial⟩
       ·
        refine zA rfl (zCe zC0 uz5 uz9 rfl rfl (fun j v hj => hs.ownAt 1 rfl hj)) ?_; clear hK; have hK := hs.suffix 6 rfl; refine zA4 ⟨hK, ?_⟩; refine zA9 [9] ?_; refine ⟨⟨_, rfl, ?_⟩, trivial⟩; refine zAb rfl zDr (zBs (most := 4294967295) hW hs (by omega) he2 (by omega) (by omega)) ?_; clear hs; rintro _ w ⟨rfl, hs⟩; have he3 : B.drop (q2 + (zB4 y.2.2).length) = _ := zBm he2; generalize q2 + (zB4 y.2.2).length = q3 at hs he3; clear hK; have hK := hs.suffix 6 rfl; refine zA4 ⟨hK, ?_⟩; refine zA5 10 rfl rfl (fun w hs => zAh zBj zDg rfl (c := ((y.2.2 : Nat) : Int)) (by simp [IntKind.wrap, IntKind.bits, IntKind.signed]; omega)) hK ?_
        refine zA5 11 rfl rfl (fun w hs => zB3 ([.string y.1, .int .i64 y.2.1, .int .u32 ((y.2.2 : Nat) : Int)]) zCl zDi zDt rfl (by simp [Value.cells]) rfl rfl) hK ?_; refine zA9 [12] ?_; refine ⟨⟨_, rfl, ?_⟩, trivial⟩; refine zAz hs rfl (row := obL y) zBp zsOb rfl (zBr y.1 y.2.1 y.2.2) (by decide) (by decide) ?_; clear hs; intro b80 w hs; clear hK; have hK := hs.suffix 7 rfl; refine zA4 ⟨hK, ?_⟩; refine zA9 [13] ?_; refine ⟨⟨_, rfl, ?_⟩, trivial⟩; refine zAv hs rfl 3 0 rfl rfl zBp zBp zD8 rfl rfl (by rfl) rfl rfl (by simp only [List.length_map, List.length_take]; omega) (by simp only [List.length_map, List.length_take]; omega) ?_; clear hs; intro a81 c81 w hs
        simp only [List.set_cons_succ, List.set_cons_zero] at hs; clear hK; have hK := hs.suffix 7 rfl; refine zA4 ⟨hK, ?_⟩; refine zA5 14 rfl rfl (fun w hs => zA3 (o' := 5) zBx rfl zCt rfl rfl rfl) hK ?_; refine zA9 [15] ?_; refine ⟨⟨_, rfl, ?_⟩, trivial⟩; refine zAr (v := .slice _ _ _) hs 5 rfl zCt rfl rfl rfl rfl ?_; clear hs; intro w hs
        try simp only [List.set_cons_succ, List.set_cons_zero] at hs
        clear hK; have hK := hs.suffix 7 rfl; refine zA4 ⟨hK, ?_⟩; refine zAp (by kernel_rfl) ?_; clear hK; refine zA1 ?_; refine zA rfl (zA0 (v := .int .u64 _) rfl) ?_; refine zA rfl (zBo rfl rfl) ?_; refine zA rfl (zA2 (v := .int .u64 _) rfl) ?_; refine zA4 ?_
        have hw : IntKind.u64.wrap (((m.obs.length - k : Nat) : Int) - 1) = ((m.obs.length - (k + 1) : Nat) : Int) := by rw [zB]; omega
        have hl : ((m.obs.take k).map obL).length = k := by rw [List.length_map, List.length_take]; omega
        rw [hl] at hs; exact ⟨(k + 1, (a81, c81), q3), by simp only; omega, ⟨by simp only; omega, he3, by simp only [List.take_add_one, hy, Option.toList, List.map_append, List.map_cons, List.map_nil]; exact hs.arr [1, 3, 4, 5, 6] 7 (by decide)⟩, ⟨congrArg (Value.int .u64) hw, trivial⟩, by repeat (first | exact Out.mix _ _ _ | refine Out.updo rfl ?_ | refine Out.upd rfl ?_ | refine Out.mixIn rfl ?_)⟩
       ·
        refine zAb rfl zDr (zBs (most := 4294967295) hW hs (by omega) he2 (by omega) (by omega)) ?_; clear hs; rintro _ w ⟨rfl, hs⟩; have he3 : B.drop (q2 + (zB4 y.2.2).length) = _ := zBm he2; generalize q2 + (zB4 y.2.2).length = q3 at hs he3; clear hK; have hK := hs.suffix 6 rfl; refine zA4 ⟨hK, ?_⟩; refine zA5 10 rfl rfl (fun w hs => zAh zBj zDg rfl (c := ((y.2.2 : Nat) : Int)) (by simp [IntKind.wrap, IntKind.bits, IntKind.signed]; omega)) hK ?_; refine zA9 [4] ?_; refine ⟨⟨_, rfl, ?_⟩, trivial⟩; refine zA rfl (zCe zC0 uz5 uz9 rfl rfl (fun j v hj => hs.ownAt 1 rfl hj)) ?_; clear hK; have hK := hs.suffix 6 rfl; refine zA4 ⟨hK, ?_⟩
        refine zA5 11 rfl rfl (fun w hs => zB3 ([.string y.1, .int .i64 y.2.1, .int .u32 ((y.2.2 : Nat) : Int)]) zCl zDi zDt rfl (by simp [Value.cells]) rfl rfl) hK ?_; refine zA9 [12] ?_; refine ⟨⟨_, rfl, ?_⟩, trivial⟩; refine zAz hs rfl (row := obL y) zBp zsOb rfl (zBr y.1 y.2.1 y.2.2) (by decide) (by decide) ?_; clear hs; intro b80 w hs; clear hK; have hK := hs.suffix 7 rfl; refine zA4 ⟨hK, ?_⟩; refine zA9 [13] ?_; refine ⟨⟨_, rfl, ?_⟩, trivial⟩; refine zAv hs rfl 3 0 rfl rfl zBp zBp zD8 rfl rfl (by rfl) rfl rfl (by simp only [List.length_map, List.length_take]; omega) (by simp only [List.length_map, List.length_take]; omega) ?_; clear hs; intro a81 c81 w hs
        simp only [List.set_cons_succ, List.set_cons_zero] at hs; clear hK; have hK := hs.suffix 7 rfl; refine zA4 ⟨hK, ?_⟩; refine zA5 14 rfl rfl (fun w hs => zA3 (o' := 5) zBx rfl zCt rfl rfl rfl) hK ?_; refine zA9 [15] ?_; refine ⟨⟨_, rfl, ?_⟩, trivial⟩; refine zAr (v := .slice _ _ _) hs 5 rfl zCt rfl rfl rfl rfl ?_; clear hs; intro w hs
        try simp only [List.set_cons_succ, List.set_cons_zero] at hs
        clear hK; have hK := hs.suffix 7 rfl; refine zA4 ⟨hK, ?_⟩; refine zAp (by kernel_rfl) ?_; clear hK; refine zA1 ?_; refine zA rfl (zA0 (v := .int .u64 _) rfl) ?_; refine zA rfl (zBo rfl rfl) ?_; refine zA rfl (zA2 (v := .int .u64 _) rfl) ?_; refine zA4 ?_
        have hw : IntKind.u64.wrap (((m.obs.length - k : Nat) : Int) - 1) = ((m.obs.length - (k + 1) : Nat) : Int) := by rw [zB]; omega
        have hl : ((m.obs.take k).map obL).length = k := by rw [List.length_map, List.length_take]; omega
        rw [hl] at hs; exact ⟨(k + 1, (a81, c81), q3), by simp only; omega, ⟨by simp only; omega, he3, by simp only [List.take_add_one, hy, Option.toList, List.map_append, List.map_cons, List.map_nil]; exact hs.arr [1, 3, 4, 5, 6] 7 (by decide)⟩, ⟨congrArg (Value.int .u64) hw, trivial⟩, by repeat (first | exact Out.mix _ _ _ | refine Out.updo rfl ?_ | refine Out.upd rfl ?_ | refine Out.mixIn rfl ?_)⟩
      ·
       refine zA rfl (zCe zC0 uz5 uz9 rfl rfl (fun j v hj => hs.ownAt 1 rfl hj)) ?_; clear hK; have hK := hs.suffix 6 rfl; refine zA4 ⟨hK, ?_⟩; refine zA9 [1, 9] ?_; refine ⟨⟨_, rfl, ?_⟩, ⟨_, rfl, ?_⟩, trivial⟩
       ·
        refine zA rfl (zA8 zBp rfl rfl (hs.cellAt 4 rfl rfl)) ?_; clear hK; have hK := (show Mem g w L from by first | exact hs.suffix 5 rfl | exact hs.suffix 6 rfl | exact hs.suffix 7 rfl); refine zA4 ⟨hK, ?_⟩; refine zA9 [9] ?_; refine ⟨⟨_, rfl, ?_⟩, trivial⟩; refine zAb rfl zDr (zBs (most := 4294967295) hW hs (by omega) he2 (by omega) (by omega)) ?_; clear hs; rintro _ w ⟨rfl, hs⟩; have he3 : B.drop (q2 + (zB4 y.2.2).length) = _ := zBm he2; generalize q2 + (zB4 y.2.2).length = q3 at hs he3; clear hK; have hK := hs.suffix 6 rfl; refine zA4 ⟨hK, ?_⟩
        refine zA5 10 rfl rfl (fun w hs => zAh zBj zDg rfl (c := ((y.2.2 : Nat) : Int)) (by simp [IntKind.wrap, IntKind.bits, IntKind.signed]; omega)) hK ?_; refine zA5 11 rfl rfl (fun w hs => zB3 ([.string y.1, .int .i64 y.2.1, .int .u32 ((y.2.2 : Nat) : Int)]) zCl zDi zDt rfl (by simp [Value.cells]) rfl rfl) hK ?_; refine zA9 [12] ?_; refine ⟨⟨_, rfl, ?_⟩, trivial⟩; refine zAz hs rfl (row := obL y) zBp zsOb rfl (zBr y.1 y.2.1 y.2.2) (by decide) (by decide) ?_; clear hs; intro b80 w hs; clear hK; have hK := hs.suffix 7 rfl; refine zA4 ⟨hK, ?_⟩; refine zA9 [13] ?_; refine ⟨⟨_, rfl, ?_⟩, trivial⟩
        refine zAv hs rfl 3 0 rfl rfl zBp zBp zD8 rfl rfl (by rfl) rfl rfl (by simp only [List.length_map, List.length_take]; omega) (by simp only [List.length_map, List.length_take]; omega) ?_; clear hs; intro a81 c81 w hs; simp only [List.set_cons_succ, List.set_cons_zero] at hs; clear hK; have hK := hs.suffix 7 rfl; refine zA4 ⟨hK, ?_⟩; refine zA5 14 rfl rfl (fun w hs => zA3 (o' := 5) zBx rfl zCt rfl rfl rfl) hK ?_; refine zA9 [15] ?_; refine ⟨⟨_, rfl, ?_⟩, trivial⟩; refine zAr (v := .slice _ _ _) hs 5 rfl zCt rfl rfl rfl rfl ?_; clear hs; intro w hs
        try simp only [List.set_cons_succ, List.set_cons_zero] at hs
        clear hK; have hK := hs.suffix 7 rfl; refine zA4 ⟨hK, ?_⟩; refine zAp (by kernel_rfl) ?_; clear hK; refine zA1 ?_; refine zA rfl (zA0 (v := .int .u64 _) rfl) ?_; refine zA rfl (zBo rfl rfl) ?_; refine zA rfl (zA2 (v := .int .u64 _) rfl) ?_; refine zA4 ?_
        have hw : IntKind.u64.wrap (((m.obs.length - k : Nat) : Int) - 1) = ((m.obs.length - (k + 1) : Nat) : Int) := by rw [zB]; omega
        have hl : ((m.obs.take k).map obL).length = k := by rw [List.length_map, List.length_take]; omega
        rw [hl] at hs; exact ⟨(k + 1, (a81, c81), q3), by simp only; omega, ⟨by simp only; omega, he3, by simp only [List.take_add_one, hy, Option.toList, List.map_append, List.map_cons, List.map_nil]; exact hs.arr [1, 3, 4, 5, 6] 7 (by decide)⟩, ⟨congrArg (Value.int .u64) hw, trivial⟩, by repeat (first | exact Out.mix _ _ _ | refine Out.updo rfl ?_ | refine Out.upd rfl ?_ | refine Out.mixIn rfl ?_)⟩
       ·
        refine zAb rfl zDr (zBs (most := 4294967295) hW hs (by omega) he2 (by omega) (by omega)) ?_; clear hs; rintro _ w ⟨rfl, hs⟩; have he3 : B.drop (q2 + (zB4 y.2.2).length) = _ := zBm he2; generalize q2 + (zB4 y.2.2).length = q3 at hs he3; clear hK; have hK := hs.suffix 6 rfl; refine zA4 ⟨hK, ?_⟩; refine zA5 10 rfl rfl (fun w hs => zAh zBj zDg rfl (c := ((y.2.2 : Nat) : Int)) (by simp [IntKind.wrap, IntKind.bits, IntKind.signed]; omega)) hK ?_; refine zA5 11 rfl rfl (fun w hs => zB3 ([.string y.1, .int .i64 y.2.1, .int .u32 ((y.2.2 : Nat) : Int)]) zCl zDi zDt rfl (by simp [Value.cells]) rfl rfl) hK ?_; refine zA9 [1, 12] ?_; refine ⟨⟨_, rfl, ?_⟩, ⟨_, rfl, ?_⟩, trivial⟩
        ·
         refine zA rfl (zA8 zBp rfl rfl (hs.cellAt 4 rfl rfl)) ?_; clear hK; have hK := (show Mem g w L from by first | exact hs.suffix 5 rfl | exact hs.suffix 6 rfl | exact hs.suffix 7 rfl); refine zA4 ⟨hK, ?_⟩; refine zA9 [12] ?_; refine ⟨⟨_, rfl, ?_⟩, trivial⟩; refine zAz hs rfl (row := obL y) zBp zsOb rfl (zBr y.1 y.2.1 y.2.2) (by decide) (by decide) ?_; clear hs; intro b80 w hs; clear hK; have hK := hs.suffix 7 rfl; refine zA4 ⟨hK, ?_⟩; refine zA9 [13] ?_; refine ⟨⟨_, rfl, ?_⟩, trivial⟩; refine zAv hs rfl 3 0 rfl rfl zBp zBp zD8 rfl rfl (by rfl) rfl rfl (by simp only [List.length_map, List.length_take]; omega) (by simp only [List.length_map, List.length_take]; omega) ?_
         clear hs; intro a81 c81 w hs; simp only [List.set_cons_succ, List.set_cons_zero] at hs; clear hK; have hK := hs.suffix 7 rfl; refine zA4 ⟨hK, ?_⟩; refine zA5 14 rfl rfl (fun w hs => zA3 (o' := 5) zBx rfl zCt rfl rfl rfl) hK ?_; refine zA9 [15] ?_; refine ⟨⟨_, rfl, ?_⟩, trivial⟩; refine zAr (v := .slice _ _ _) hs 5 rfl zCt rfl rfl rfl rfl ?_; clear hs; intro w hs
         try simp only [List.set_cons_succ, List.set_cons_zero] at hs
         clear hK; have hK := hs.suffix 7 rfl; refine zA4 ⟨hK, ?_⟩; refine zAp (by kernel_rfl) ?_; clear hK; refine zA1 ?_; refine zA rfl (zA0 (v := .int .u64 _) rfl) ?_; refine zA rfl (zBo rfl rfl) ?_; refine zA rfl (zA2 (v := .int .u64 _) rfl) ?_; refine zA4 ?_
         have hw : IntKind.u64.wrap (((m.obs.length - k : Nat) : Int) - 1) = ((m.obs.length - (k + 1) : Nat) : Int) := by rw [zB]; omega
         have hl : ((m.obs.take k).map obL).length = k := by rw [List.length_map, List.length_take]; omega
         rw [hl] at hs; exact ⟨(k + 1, (a81, c81), q3), by simp only; omega, ⟨by simp only; omega, he3, by simp only [List.take_add_one, hy, Option.toList, List.map_append, List.map_cons, List.map_nil]; exact hs.arr [1, 3, 4, 5, 6] 7 (by decide)⟩, ⟨congrArg (Value.int .u64) hw, trivial⟩, by repeat (first | exact Out.mix _ _ _ | refine Out.updo rfl ?_ | refine Out.upd rfl ?_ | refine Out.mixIn rfl ?_)⟩
        ·
         refine zAz hs rfl (row := obL y) zBp zsOb rfl (zBr y.1 y.2.1 y.2.2) (by decide) (by decide) ?_; clear hs; intro b80 w hs; clear hK; have hK := hs.suffix 7 rfl; refine zA4 ⟨hK, ?_⟩; refine zA9 [1] ?_; refine ⟨⟨_, rfl, ?_⟩, trivial⟩; refine zA rfl (zA8 zBp rfl rfl (hs.cellAt 5 rfl rfl)) ?_; clear hK; have hK := (show Mem g w L from by first | exact hs.suffix 5 rfl | exact hs.suffix 6 rfl | exact hs.suffix 7 rfl); refine zA4 ⟨hK, ?_⟩; refine zA9 [13] ?_; refine ⟨⟨_, rfl, ?_⟩, trivial⟩; refine zAv hs rfl 3 0 rfl rfl zBp zBp zD8 rfl rfl (by rfl) rfl rfl (by simp only [List.length_map, List.length_take]; omega) (by simp only [List.length_map, List.length_take]; omega) ?_; clear hs
         intro a81 c81 w hs; simp only [List.set_cons_succ, List.set_cons_zero] at hs; clear hK; have hK := hs.suffix 7 rfl; refine zA4 ⟨hK, ?_⟩; refine zA5 14 rfl rfl (fun w hs => zA3 (o' := 5) zBx rfl zCt rfl rfl rfl) hK ?_; refine zA9 [15] ?_; refine ⟨⟨_, rfl, ?_⟩, trivial⟩; refine zAr (v := .slice _ _ _) hs 5 rfl zCt rfl rfl rfl rfl ?_; clear hs; intro w hs
         try simp only [List.set_cons_succ, List.set_cons_zero] at hs
         clear hK; have hK := hs.suffix 7 rfl; refine zA4 ⟨hK, ?_⟩; refine zAp (by kernel_rfl) ?_; clear hK; refine zA1 ?_; refine zA rfl (zA0 (v := .int .u64 _) rfl) ?_; refine zA rfl (zBo rfl rfl) ?_; refine zA rfl (zA2 (v := .int .u64 _) rfl) ?_; refine zA4 ?_
         have hw : IntKind.u64.wrap (((m.obs.length - k : Nat) : Int) - 1) = ((m.obs.length - (k + 1) : Nat) : Int) := by rw [zB]; omega
         have hl : ((m.obs.take k).map obL).length = k := by rw [List.length_map, List.length_take]; omega
         rw [hl] at hs; exact ⟨(k + 1, (a81, c81), q3), by simp only; omega, ⟨by simp only; omega, he3, by simp only [List.take_add_one, hy, Option.toList, List.map_append, List.map_cons, List.map_nil]; exact hs.arr [1, 3, 4, 5, 6] 7 (by decide)⟩, ⟨congrArg (Value.int .u64) hw, trivial⟩, by repeat (first | exact Out.mix _ _ _ | refine Out.updo rfl ?_ | refine Out.upd rfl ?_ | refine Out.mixIn rfl ?_)⟩
      ·
       refine zAb rfl zDr (zBs (most := 4294967295) hW hs (by omega) he2 (by omega) (by omega)) ?_; clear hs; rintro _ w ⟨rfl, hs⟩; have he3 : B.drop (q2 + (zB4 y.2.2).length) = _ := zBm he2; generalize q2 + (zB4 y.2.2).length = q3 at hs he3; clear hK; have hK := hs.suffix 6 rfl; refine zA4 ⟨hK, ?_⟩; refine zA5 10 rfl rfl (fun w hs => zAh zBj zDg rfl (c := ((y.2.2 : Nat) : Int)) (by simp [IntKind.wrap, IntKind.bits, IntKind.signed]; omega)) hK ?_; refine zA9 [1, 4] ?_; refine ⟨⟨_, rfl, ?_⟩, ⟨_, rfl, ?_⟩, trivial⟩
       ·
        refine zA rfl (zA8 zBp rfl rfl (hs.cellAt 4 rfl rfl)) ?_; clear hK; have hK := (show Mem g w L from by first | exact hs.suffix 5 rfl | exact hs.suffix 6 rfl | exact hs.suffix 7 rfl); refine zA4 ⟨hK, ?_⟩; refine zA9 [4] ?_; refine ⟨⟨_, rfl, ?_⟩, trivial⟩; refine zA rfl (zCe zC0 uz5 uz9 rfl rfl (fun j v hj => hs.ownAt 1 rfl hj)) ?_; clear hK; have hK := hs.suffix 6 rfl; refine zA4 ⟨hK, ?_⟩; refine zA5 11 rfl rfl (fun w hs => zB3 ([.string y.1, .int .i64 y.2.1, .int .u32 ((y.2.2 : Nat) : Int)]) zCl zDi zDt rfl (by simp [Value.cells]) rfl rfl) hK ?_; refine zA9 [12] ?_; refine ⟨⟨_, rfl, ?_⟩, trivial⟩
        refine zAz hs rfl (row := obL y) zBp zsOb rfl (zBr y.1 y.2.1 y.2.2) (by decide) (by decide) ?_; clear hs; intro b80 w hs; clear hK; have hK := hs.suffix 7 rfl; refine zA4 ⟨hK, ?_⟩; refine zA9 [13] ?_; refine ⟨⟨_, rfl, ?_⟩, trivial⟩; refine zAv hs rfl 3 0 rfl rfl zBp zBp zD8 rfl rfl (by rfl) rfl rfl (by simp only [List.length_map, List.length_take]; omega) (by simp only [List.length_map, List.length_take]; omega) ?_; clear hs; intro a81 c81 w hs; simp only [List.set_cons_succ, List.set_cons_zero] at hs; clear hK; have hK := hs.suffix 7 rfl; refine zA4 ⟨hK, ?_⟩; refine zA5 14 rfl rfl (fun w hs => zA3 (o' := 5) zBx rfl zCt rfl rfl rfl) hK ?_; refine zA9 [15] ?_
        refine ⟨⟨_, rfl, ?_⟩, trivial⟩; refine zAr (v := .slice _ _ _) hs 5 rfl zCt rfl rfl rfl rfl ?_; clear hs; intro w hs
        try simp only [List.set_cons_succ, List.set_cons_zero] at hs
        clear hK; have hK := hs.suffix 7 rfl; refine zA4 ⟨hK, ?_⟩; refine zAp (by kernel_rfl) ?_; clear hK; refine zA1 ?_; refine zA rfl (zA0 (v := .int .u64 _) rfl) ?_; refine zA rfl (zBo rfl rfl) ?_; refine zA rfl (zA2 (v := .int .u64 _) rfl) ?_; refine zA4 ?_
        have hw : IntKind.u64.wrap (((m.obs.length - k : Nat) : Int) - 1) = ((m.obs.length - (k + 1) : Nat) : Int) := by rw [zB]; omega
        have hl : ((m.obs.take k).map obL).length = k := by rw [List.length_map, List.length_take]; omega
        rw [hl] at hs; exact ⟨(k + 1, (a81, c81), q3), by simp only; omega, ⟨by simp only; omega, he3, by simp only [List.take_add_one, hy, Option.toList, List.map_append, List.map_cons, List.map_nil]; exact hs.arr [1, 3, 4, 5, 6] 7 (by decide)⟩, ⟨congrArg (Value.int .u64) hw, trivial⟩, by repeat (first | exact Out.mix _ _ _ | refine Out.updo rfl ?_ | refine Out.upd rfl ?_ | refine Out.mixIn rfl ?_)⟩
       ·
        refine zA rfl (zCe zC0 uz5 uz9 rfl rfl (fun j v hj => hs.ownAt 1 rfl hj)) ?_; clear hK; have hK := hs.suffix 6 rfl; refine zA4 ⟨hK, ?_⟩; refine zA5 11 rfl rfl (fun w hs => zB3 ([.string y.1, .int .i64 y.2.1, .int .u32 ((y.2.2 : Nat) : Int)]) zCl zDi zDt rfl (by simp [Value.cells]) rfl rfl) hK ?_; refine zA9 [1, 12] ?_; refine ⟨⟨_, rfl, ?_⟩, ⟨_, rfl, ?_⟩, trivial⟩
        ·
         refine zA rfl (zA8 zBp rfl rfl (hs.cellAt 4 rfl rfl)) ?_; clear hK; have hK := (show Mem g w L from by first | exact hs.suffix 5 rfl | exact hs.suffix 6 rfl | exact hs.suffix 7 rfl); refine zA4 ⟨hK, ?_⟩; refine zA9 [12] ?_; refine ⟨⟨_, rfl, ?_⟩, trivial⟩; refine zAz hs rfl (row := obL y) zBp zsOb rfl (zBr y.1 y.2.1 y.2.2) (by decide) (by decide) ?_; clear hs; intro b80 w hs; clear hK; have hK := hs.suffix 7 rfl; refine zA4 ⟨hK, ?_⟩; refine zA9 [13] ?_; refine ⟨⟨_, rfl, ?_⟩, trivial⟩; refine zAv hs rfl 3 0 rfl rfl zBp zBp zD8 rfl rfl (by rfl) rfl rfl (by simp only [List.length_map, List.length_take]; omega) (by simp only [List.length_map, List.length_take]; omega) ?_
         clear hs; intro a81 c81 w hs; simp only [List.set_cons_succ, List.set_cons_zero] at hs; clear hK; have hK := hs.suffix 7 rfl; refine zA4 ⟨hK, ?_⟩; refine zA5 14 rfl rfl (fun w hs => zA3 (o' := 5) zBx rfl zCt rfl rfl rfl) hK ?_; refine zA9 [15] ?_; refine ⟨⟨_, rfl, ?_⟩, trivial⟩; refine zAr (v := .slice _ _ _) hs 5 rfl zCt rfl rfl rfl rfl ?_; clear hs; intro w hs
         try simp only [List.set_cons_succ, List.set_cons_zero] at hs
         clear hK; have hK := hs.suffix 7 rfl; refine zA4 ⟨hK, ?_⟩; refine zAp (by kernel_rfl) ?_; clear hK; refine zA1 ?_; refine zA rfl (zA0 (v := .int .u64 _) rfl) ?_; refine zA rfl (zBo rfl rfl) ?_; refine zA rfl (zA2 (v := .int .u64 _) rfl) ?_; refine zA4 ?_
         have hw : IntKind.u64.wrap (((m.obs.length - k : Nat) : Int) - 1) = ((m.obs.length - (k + 1) : Nat) : Int) := by rw [zB]; omega
         have hl : ((m.obs.take k).map obL).length = k := by rw [List.length_map, List.length_take]; omega
         rw [hl] at hs; exact ⟨(k + 1, (a81, c81), q3), by simp only; omega, ⟨by simp only; omega, he3, by simp only [List.take_add_one, hy, Option.toList, List.map_append, List.map_cons, List.map_nil]; exact hs.arr [1, 3, 4, 5, 6] 7 (by decide)⟩, ⟨congrArg (Value.int .u64) hw, trivial⟩, by repeat (first | exact Out.mix _ _ _ | refine Out.updo rfl ?_ | refine Out.upd rfl ?_ | refine Out.mixIn rfl ?_)⟩
        ·
         refine zAz hs rfl (row := obL y) zBp zsOb rfl (zBr y.1 y.2.1 y.2.2) (by decide) (by decide) ?_; clear hs; intro b80 w hs; clear hK; have hK := hs.suffix 7 rfl; refine zA4 ⟨hK, ?_⟩; refine zA9 [1] ?_; refine ⟨⟨_, rfl, ?_⟩, trivial⟩; refine zA rfl (zA8 zBp rfl rfl (hs.cellAt 5 rfl rfl)) ?_; clear hK; have hK := (show Mem g w L from by first | exact hs.suffix 5 rfl | exact hs.suffix 6 rfl | exact hs.suffix 7 rfl); refine zA4 ⟨hK, ?_⟩; refine zA9 [13] ?_; refine ⟨⟨_, rfl, ?_⟩, trivial⟩; refine zAv hs rfl 3 0 rfl rfl zBp zBp zD8 rfl rfl (by rfl) rfl rfl (by simp only [List.length_map, List.length_take]; omega) (by simp only [List.length_map, List.length_take]; omega) ?_; clear hs
         intro a81 c81 w hs; simp only [List.set_cons_succ, List.set_cons_zero] at hs; clear hK; have hK := hs.suffix 7 rfl; refine zA4 ⟨hK, ?_⟩; refine zA5 14 rfl rfl (fun w hs => zA3 (o' := 5) zBx rfl zCt rfl rfl rfl) hK ?_; refine zA9 [15] ?_; refine ⟨⟨_, rfl, ?_⟩, trivial⟩; refine zAr (v := .slice _ _ _) hs 5 rfl zCt rfl rfl rfl rfl ?_; clear hs; intro w hs
         try simp only [List.set_cons_succ, List.set_cons_zero] at hs
         clear hK; have hK := hs.suffix 7 rfl; refine zA4 ⟨hK, ?_⟩; refine zAp (by kernel_rfl) ?_; clear hK; refine zA1 ?_; refine zA rfl (zA0 (v := .int .u64 _) rfl) ?_; refine zA rfl (zBo rfl rfl) ?_; refine zA rfl (zA2 (v := .int .u64 _) rfl) ?_; refine zA4 ?_
         have hw : IntKind.u64.wrap (((m.obs.length - k : Nat) : Int) - 1) = ((m.obs.length - (k + 1) : Nat) : Int) := by rw [zB]; omega
         have hl : ((m.obs.take k).map obL).length = k := by rw [List.length_map, List.length_take]; omega
         rw [hl] at hs; exact ⟨(k + 1, (a81, c81), q3), by simp only; omega, ⟨by simp only; omega, he3, by simp only [List.take_add_one, hy, Option.toList, List.map_append, List.map_cons, List.map_nil]; exact hs.arr [1, 3, 4, 5, 6] 7 (by decide)⟩, ⟨congrArg (Value.int .u64) hw, trivial⟩, by repeat (first | exact Out.mix _ _ _ | refine Out.updo rfl ?_ | refine Out.upd rfl ?_ | refine Out.mixIn rfl ?_)⟩
   ·
    intro h60; have g60 := of_decide_eq_false h60
    obtain rfl : k = m.obs.length := by omega
    have hpl : B.length ≤ p' := List.drop_eq_nil_iff.1 (hd.trans (by rw [List.drop_length]; rfl)); rw [List.take_length] at hs; refine zAc rfl rfl rfl h60 ?_; refine zAc rfl rfl rfl h60 ?_; refine zAc rfl rfl rfl h60 ?_; refine zA rfl (zAk (v := .bool _) rfl h60 rfl) ?_; refine zA4 ?_; refine zAx rfl rfl ?_; refine zBg rfl ?_; refine zA6 ?_; refine zA6 (zA1 ?_); refine zA rfl (zA0 (v := .pointer (some _)) rfl) ?_; refine zAb rfl en70 (errOK_sl hs) ?_; clear hs; rintro _ w ⟨rfl, hs⟩; refine zA rfl (zBf rfl) ?_; refine zA4 ?_; refine zAx rfl (rfl) ?_; refine zAf ?_; refine zA6 ?_; refine zA6 (zA1 ?_); refine zA rfl (zA0 (v := .pointer (some _)) rfl) ?_
    refine zAb rfl en114 (left_sl hs (by omega)) ?_; clear hs; rintro _ w ⟨rfl, hpl2, hs⟩; refine zA rfl (zBi rfl rfl) ?_; refine zA4 ?_; refine zAx rfl (decide_eq_false (by omega)) ?_; refine zAf ?_; refine zA6 ?_; refine zA6 (zA1 ?_); refine zA rfl (zBc hs 3 rfl zBx zDf rfl) ?_; refine zAb rfl en40 (validM_sl hE hs (MfR.own (e := s) (o := s') 2 1 rfl rfl) (by omega)) ?_; clear hs; rintro _ w ⟨eb, rfl, hs⟩; rw [h0, flC_bare] at hs; rw [h0, flV_bare]; replace hs := hs.tail; refine zA rfl (zA2 (v := zAq ad _) rfl) ?_; refine zA4 (zA6 (zA1 ?_)); refine zA rfl (zA0 (v := zAq ad _) rfl) ?_; refine zA rfl (zAt (ad := ad) rfl) ?_; refine zA4 ?_; refine zAx rfl (rfl) ?_; refine zAf ?_
    refine zA6 (zA1 ?_); refine zA rfl (zBc hs 3 rfl zBx zDf rfl) ?_; refine zAn hs 4 rfl rfl rfl zDf rfl rfl ?_; clear hs; intro w hs
    try simp only [List.set_cons_succ, List.set_cons_zero] at hs
    refine zA rfl (zA2 (v := .nilIface) rfl) ?_; refine zA4 ?_; refine zAg ?_; refine zFd [(.cell 2 39, .agg _), (.tmp 3, .nilIface)] rfl ⟨⟨_, rfl, zBq hs 4 rfl zBx zDf⟩, rfl, trivial⟩ ?_; exact ⟨_, rfl, s, s', rfl, hs.arr [2, 1] 5 (by decide)⟩
end Go.Proofs.YtdkgdjnbpjjfmaaGreatDoor
namespace Go.Proofs.YtdkgdjnbpjjfmaaGreatDoor
set_option linter.all false
open Go.RowKit
variable {g w : World} {L M : List HP} {ad : Nat → Addr} {p : Nat} {V : Vw}

section
variable {P : Program} {n : Nat} {ops : Array Oper} {rest : List Oper} {K : Env → World → Prop} {ρ : Env} {dst : Option Tmp} {ty : TypeId} {pos : String} {aft : Array Edge}
theorem flat_setK {k : Nat} : ∀ {rows : List (List Value)} {r vs : List Value} {q j : Nat}, (∀ r ∈ rows, r.length = k) → rows[q]? = some r → j + vs.length ≤ k →
    (rows.set q (r.take j ++ vs ++ r.drop (j + vs.length))).flatten = rows.flatten.take (q * k + j) ++ vs ++ rows.flatten.drop (q * k + j + vs.length)
  | [], _, _, _, _, _, h, _ => by simp at h
  | x :: rows, r, vs, 0, j, hl, h, hj => by
    simp only [List.getElem?_cons_zero, Option.some.injEq] at h; subst h; have hx := hl x (List.mem_cons_self ..); simp only [List.set_cons_zero, List.flatten_cons, Nat.zero_mul, Nat.zero_add]; rw [List.take_append_of_le_length (by omega), List.drop_append_of_le_length (by omega)]; simp only [List.append_assoc]
  | x :: rows, r, vs, q + 1, j, hl, h, hj => by
    have hx := hl x (List.mem_cons_self ..); simp only [List.getElem?_cons_succ] at h; have ih := flat_setK (vs := vs) (fun y hy => hl y (List.mem_cons_of_mem _ hy)) h hj
    have e1 : (q + 1) * k + j = x.length + (q * k + j) := by rw [Nat.succ_mul]; omega
    have e2 : (q + 1) * k + j + vs.length = x.length + (q * k + j + vs.length) := by rw [Nat.succ_mul]; omega
    simp only [List.set_cons_succ, List.flatten_cons, ih]; rw [e2, e1, List.take_length_add_append, List.drop_length_add_append]; simp only [List.append_assoc]
theorem patch_at (X vs : List Value) (p i : Nat) (h : p + vs.length ≤ X.length) : (X.take p ++ vs ++ X.drop (p + vs.length))[i]? = if i < p then X[i]? else if i < p + vs.length then vs[i - p]? else X[i]? := by
  rw [List.append_assoc]
  have hl : (X.take p).length = p := by rw [List.length_take]; omega
  by_cases h1 : i < p
  · rw [if_pos h1, List.getElem?_append_left (by omega), List.getElem?_take_of_lt h1]
  · rw [if_neg h1, List.getElem?_append_right (by omega), hl]
    by_cases h2 : i < p + vs.length
    · rw [if_pos h2, List.getElem?_append_left (by omega)]
    · rw [if_neg h2, List.getElem?_append_right (by omega), List.getElem?_drop]
      congr 1; omega
/-- Some cells of a row of one's own are written. -/
theorem lw_storeRowK (hs : Mem g w L) (i : Nat) {x y : Operand} {t : TypeId} {b o o' m c k q j : Nat} {rows : List (List Value)} {r vs : List Value} (hi : L[i]? = some (zFp k (.slice (some ⟨b, o, none⟩) m c) rows)) (hsz : (P.info? t).map (·.size) = some vs.length) (hx : ev ρ x = .pointer (some ⟨b, o', none⟩)) (hq : rows[q]? = some r) (hj : j + vs.length ≤ k) (hv : 0 < vs.length) (ho : o + (q * k + j) = o') (hy : ev ρ y = .agg vs.toArray) (h1 : ∀ v ∈ vs, v.oneCell' = true)
    (h : ∀ w', Mem g w' (L.set i (zFp k (.slice (some ⟨b, o, none⟩) m c) (rows.set q (r.take j ++ vs ++ r.drop (j + vs.length))))) → lw P n ops rest K ρ w') : lw P n ops (⟨none, .store t x y, ty, pos, aft, none⟩ :: rest) K ρ w := by
  subst ho; obtain ⟨F, ⟨g1, g2⟩, g3⟩ := hs.turn hi; obtain ⟨a', n', c', hv', hn, hc, ha, hrw, hr⟩ := g1; simp only [Value.slice.injEq] at hv'; obtain ⟨rfl, rfl, rfl⟩ := hv'
  have hlen : ∀ r ∈ rows, r.length = k := fun r hr => (hrw r hr).1
  have hqlt : q < rows.length := (List.getElem?_eq_some_iff.1 hq).1; have hrk : r.length = k := hlen r (List.mem_of_getElem? hq); have hle : (q + 1) * k ≤ rows.length * k := Nat.mul_le_mul_right _ hqlt; have hq1 : (q + 1) * k = q * k + k := Nat.succ_mul _ _
  have hfl : rows.flatten.length = rows.length * k := by
    have := zGb hrw; exact this
  have hmk : m * k = rows.length * k := by rw [hn]
  have hck : m * k ≤ c * k := Nat.mul_le_mul_right _ hc
  rcases hr with hr | ⟨b', off, cs, E, he, hb, hz, hcs⟩
  · omega
  · simp only [Option.some.injEq, Addr.mk.injEq] at he
    obtain ⟨rfl, rfl, _⟩ := he; obtain ⟨inf, hinf, hsz⟩ := Option.map_eq_some_iff.1 hsz
    have hin : o + (q * k + j) + vs.length ≤ cs.size := by omega
    have hst : (storeVar t ⟨b, o + (q * k + j), none⟩ (.agg vs.toArray)).run P w = .ok () (w.setRow b (cs.toList.take (o + (q * k + j)) ++ vs ++ cs.toList.drop (o + (q * k + j) + vs.length)).toArray) := by
      have := run_storeCells_at (P := P) b (o + (q * k + j)) E vs 0 cs w hb (by simpa using hin) h1
      simpa [storeVar, sizeOf, typeInfo, hinf, hsz, Value.cells] using this
    have hlt := lt_of_block hb; refine lw_skip rfl (w' := w.setRow b (cs.toList.take (o + (q * k + j)) ++ vs ++ cs.toList.drop (o + (q * k + j) + vs.length)).toArray) ?_ (h _ (g3 _ _ F ⟨⟨_, _, _, rfl, by simpa using hn, hc, ⟨ha.1, fun x hx => ?_⟩, fun y hy => ?_, .inr ⟨b, o, _, E, rfl, setRow_heap w b cs _ E (0, 0) hb, ?_, fun i hi' => ?_⟩⟩, g2⟩ (fun b hb => .inl hb) ⟨rfl, rfl, rfl, by simp [World.setRow], fun k _ hk => setRow_other w b k _ (fun e => hk ((g2 k).2 (by rw [e]; rfl)))⟩))
    · simp [execOp, hx, hy, Instr.storeAt, Instr.sureAddr, hst]
    · have := ha.2 x hx; simpa [World.setRow] using this
    · rcases List.mem_or_eq_of_mem_set hy with hy | rfl
      · exact hrw y hy
      · refine ⟨by simp only [List.length_append, List.length_take, List.length_drop]; omega, fun z hz => ?_⟩
        rcases List.mem_append.1 hz with hz | hz
        · rcases List.mem_append.1 hz with hz | hz
          · exact (hrw r (List.mem_of_getElem? hq)).2 z (List.mem_of_mem_take hz)
          · exact h1 z hz
        · exact (hrw r (List.mem_of_getElem? hq)).2 z (List.mem_of_mem_drop hz)
    · simp only [List.size_toArray, List.length_append, List.length_take, List.length_drop, Array.length_toList]; omega
    · rw [flat_setK hlen hq hj, patch_at _ _ _ _ (by omega), List.getElem?_toArray, patch_at _ _ _ _ (by simpa using hin)]
      have h3 := hcs i hi'
      by_cases e1 : i < q * k + j
      · rw [if_pos e1, if_pos (by omega)]; simpa using h3
      · rw [if_neg e1, if_neg (by omega)]
        by_cases e2 : i < q * k + j + vs.length
        · rw [if_pos e2, if_pos (by omega)]; congr 1; omega
        · rw [if_neg e2, if_neg (by omega)]; simpa using h3
end
/-- An item with its two slices. -/
abbrev T7 := Itm × SA × SA
def t7L (t : T7) : List Value := .int .i64 t.1.st :: mfL t.1.m t.2.1 t.2.2
def t7P (t : T7) : List HP := mfP t.1.m t.2.1 t.2.2
/-- An item's row ahead of its manifest. -/
def z7L (i : Itm) : List Value := .int .i64 i.st :: mfL Mf.z (none, 0) (none, 0)
theorem t7L_one (t : T7) : ∀ v ∈ t7L t, v.oneCell' = true := fun v hv => by
  simp only [t7L, mfL, List.mem_cons, List.not_mem_nil, or_false] at hv
  rcases hv with rfl | rfl | rfl | rfl | rfl | rfl | rfl <;> rfl
theorem t7L_at {ts : List T7} {k : Nat} {t : T7} (h : ts[k]? = some t) : (ts.map t7L)[k]? = some (t7L t) := by simp [h]
theorem zsIt : (Tryz.prog.info? 85).map (fun i => (i.zero, i.size)) = some (some (.agg #[.int .i64 0, .int .i64 0, .int .i64 0, .int .i64 0, .int .i64 0, .slice none 0 0, .slice none 0 0]), 7) := by kernel_rfl
theorem fill_it (i : Itm) : Instr.fill (fun i => some (i * 7, 7)) ((Array.range (1 * 7)).map ((Value.agg #[.int .i64 0, .int .i64 0, .int .i64 0, .int .i64 0, .int .i64 0, .slice none 0 0, .slice none 0 0]).cells[· % (Value.agg #[.int .i64 0, .int .i64 0, .int .i64 0, .int .i64 0, .int .i64 0, .slice none 0 0, .slice none 0 0]).cells.size]!)) [(0, .agg (z7L i).toArray)] = some (z7L i).toArray := by kernel_rfl
/-- The bytes of a manifest, as they were read. -/
abbrev R7 := SA × Itm
def rawV (r : R7) : Value := .slice r.1.1 (mfB r.2.m).length r.1.2
def rawC (r : R7) : HP := own (rawV r) (zAm (mfB r.2.m))
theorem rawV_one (l : List R7) : ∀ v ∈ l.map rawV, v.oneCell' = true := fun v hv => by
  obtain ⟨r, _, rfl⟩ := List.mem_map.1 hv
  rfl
/-- The first chunk goes behind some. -/
theorem Mem.behind {C : HP} {X Y : List HP} (hs : Mem g w (C :: (X ++ Y))) : Mem g w (X ++ (C :: Y)) := hs.perm (List.perm_middle.symm)
/-- Some first chunks go behind some. -/
theorem Mem.behindL {A X Y : List HP} (hs : Mem g w (A ++ (X ++ Y))) : Mem g w (X ++ (A ++ Y)) := hs.perm (by
  rw [← List.append_assoc, ← List.append_assoc]
  exact List.perm_append_comm.append_right Y)
/-- Some chunks are let go. -/
theorem Mem.less {A X Y : List HP} (hs : Mem g w (A ++ (X ++ Y))) : Mem g w (A ++ Y) := (hs.behindL).suffix X.length (by simp)
/-- A view's list, by items. -/
def vwOf (l : List Itm) : Vw := l.map fun i => (i.m.id, i)
theorem vwOf_ok {l : List Itm} (hN : l.length ≤ 4096) (hF : ∀ i ∈ l, mfF i.m = (0, none) ∧ 1 ≤ i.st ∧ i.st ≤ 4 ∧ ∀ q ∈ i.m.obs, q.2.2 < 4294967296) (hR : l.Pairwise fun x y => x.m.id < y.m.id) : (vwOf l).ok := by
  refine ⟨?_, fun x hx => ?_, by simpa [vwOf] using hN⟩
  · simp only [zAl, vwOf, List.map_map, List.Nodup, List.pairwise_map]
    exact hR.imp fun h => by simp only [Function.comp]; omega
  · obtain ⟨i, hi, rfl⟩ := List.mem_map.1 hx
    obtain ⟨h1, h2, h3, _⟩ := hF i hi; exact ⟨by rw [h1], rfl, h2, h3⟩
theorem vwOf_next {l : List Itm} {k : Nat} {i : Itm} (hi : l[k]? = some i) (hR : l.Pairwise fun x y => x.m.id < y.m.id) : zCd (vwOf (l.take k)) i.m.id i = vwOf (l.take (k + 1)) := by
  obtain ⟨hk, he⟩ := List.getElem?_eq_some_iff.1 hi
  have hn : zB5 (vwOf (l.take k)) i.m.id = none := by
    rw [zBe]; intro h; simp only [zAl, vwOf, List.map_map, List.mem_map, Function.comp] at h; obtain ⟨j, hj, e⟩ := h; obtain ⟨q, hq⟩ := List.mem_iff_getElem?.1 hj
    have hqk : q < k := by have := (List.getElem?_eq_some_iff.1 hq).1; rw [List.length_take] at this; omega
    rw [List.getElem?_take_of_lt hqk] at hq; obtain ⟨hq1, hq2⟩ := List.getElem?_eq_some_iff.1 hq; have := List.pairwise_iff_getElem.1 hR q k hq1 hk hqk; rw [hq2, he] at this
    omega
  rw [al_end hn, List.take_add_one, hi]
  simp [vwOf]
end Go.Proofs.YtdkgdjnbpjjfmaaGreatDoor
namespace Go.Proofs.YtdkgdjnbpjjfmaaGreatDoor
set_option linter.all false
open Go.RowKit
attribute [local irreducible] zAq eV
variable {g w : World} {L M : List HP} {ad : Nat → Addr} {p : Nat} {V : Vw}

def ItFine (i : Itm) : Prop := mfF i.m = (0, none) ∧ 1 ≤ i.st ∧ i.st ≤ 4 ∧ ∀ q ∈ i.m.obs, q.2.2 < 4294967296
theorem its_len : ∀ l : List Itm, (∀ i ∈ l, ItFine i) → (l.flatMap itB).length ≤ 6015 * l.length
  | [], _ => by simp
  | i :: l, h => by
    have h1 := its_len l fun x hx => h x (List.mem_cons_of_mem _ hx)
    have h2 := itB_len (i := i) (by rw [(h i (List.mem_cons_self ..)).1])
    simp only [List.flatMap_cons, List.length_append, List.length_cons]; omega
theorem rws_at {rws : List R7} {l : List Itm} (h : rws.map (·.2) = l) {k : Nat} {i : Itm} (hi : l[k]? = some i) : ∃ s : SA, rws[k]? = some (s, i) := by
  subst h; rw [List.getElem?_map, Option.map_eq_some_iff] at hi; obtain ⟨⟨s, j⟩, h1, rfl⟩ := hi; exact ⟨s, h1⟩
theorem ds_at {ds : List T7} {l : List Itm} (h : ds.map (·.1) = l) {k : Nat} {i : Itm} (hi : l[k]? = some i) : ∃ e o : SA, ds[k]? = some (i, e, o) := by
  subst h; rw [List.getElem?_map, Option.map_eq_some_iff] at hi; obtain ⟨⟨j, e, o⟩, h1, rfl⟩ := hi; exact ⟨e, o, h1⟩
theorem rows_next {ds : List T7} {its : List Itm} {j : Nat} {i : Itm} {s1 s2 : SA} (hd : ds.length = j) (hi : its[j]? = some i) : (ds.map t7L ++ (its.drop j).map z7L).set j (t7L (i, s1, s2)) = (ds ++ [(i, s1, s2)]).map t7L ++ (its.drop (j + 1)).map z7L := by
  obtain ⟨hk, he⟩ := List.getElem?_eq_some_iff.1 hi; rw [List.drop_eq_getElem_cons hk, he, List.set_append_right _ _ (by rw [List.length_map]; omega), List.length_map, hd, Nat.sub_self]
  simp
theorem rows_at {ds : List T7} {its : List Itm} {j : Nat} {i : Itm} (hd : ds.length = j) (hi : its[j]? = some i) : (ds.map t7L ++ (its.drop j).map z7L)[j]? = some (z7L i) := by
  obtain ⟨hk, he⟩ := List.getElem?_eq_some_iff.1 hi; rw [List.drop_eq_getElem_cons hk, he, List.getElem?_append_right (by rw [List.length_map]; omega), List.length_map, hd, Nat.sub_self]
  simp
theorem z7_set (i : Itm) (s1 s2 : SA) : (z7L i).take 1 ++ mfL i.m s1 s2 ++ (z7L i).drop (1 + (mfL i.m s1 s2).length) = t7L (i, s1, s2) := rfl
theorem raw_at {A B C : HP} {rws : List R7} {Y : List HP} {j : Nat} {r : R7} (h : rws[j]? = some r) : (A :: B :: C :: (rws.map rawC ++ Y))[3 + j]? = some (rawC r) := by
  have hj := (List.getElem?_eq_some_iff.1 h).1; rw [show 3 + j = j + 3 by omega]; simp only [List.getElem?_cons_succ]; rw [List.getElem?_append_left (by simpa using hj)]
  simp [h]
theorem st8 {i : Itm} (h : ItFine i) : (UInt8.ofNat i.st.toNat).toNat = i.st.toNat := by
  have := h.2; rw [UInt8.toNat_ofNat']; omega
set_option maxHeartbeats 4000000 in
set_option maxRecDepth 10000 in
theorem readV_sl (hP : ErrP ad g) (hW : ErrW ad g) (hE : ErrV ad g) (hs : Mem g w L) {a : Option Addr} {n c : Nat} {its : List Itm} {b : List UInt8} (hb : b = zBt (zB4 its.length ++ its.flatMap itB)) (hr : Rd g L (.slice a n c) (zAm b)) (hn : n = b.length) (hc : n ≤ c) (hN : its.length ≤ 100) (hF : ∀ i ∈ its, ItFine i) (hR : its.Pairwise fun x y => x.m.id < y.m.id) :
    Calls Tryz.prog 71 #[.slice a n c] w (Ret fun v w' => ∃ p, v = .tuple #[.pointer (some ⟨p, 0, none⟩), .nilIface] ∧ Mem g w' (zFm p (vwOf its) :: L)) := by
  have hfl := its_len its hF; have hvl := zCm its.length; obtain ⟨N, hNe⟩ : ∃ N, N = its.length := ⟨_, rfl⟩; obtain ⟨B, hB⟩ : ∃ B, B = zB4 its.length ++ its.flatMap itB := ⟨_, rfl⟩
  have hBl : B.length ≤ 601510 := by rw [hB, List.length_append]; omega
  have hop : openL b = (0, B) := by rw [hb, hB]; exact open_seal _
  have hd0 : B.drop 0 = zB4 N ++ (its.drop 0).flatMap itB := by rw [hB, hNe]; rfl
  rw [← hNe] at hN; refine zAo Tryz.func71 rfl rfl ?_
  skip
  refine zA6 (zA1 ?_); refine zA rfl (zA2 (v := .pointer none) rfl) ?_; refine zA rfl (zA2 (v := .nilIface) rfl) ?_; refine zA4 (zA6 (zA1 ?_)); refine zA rfl (zA0 (v := .slice _ _ _) rfl) ?_; refine zAb rfl en108 (copen_sl hP hs hr hn hc (by rw [hb, ← hB, zC1]; omega) hop) ?_; clear hs; rintro _ w ⟨a19, c19, rfl, hs⟩; rw [zB6]; refine zA rfl (zA0 (v := .tuple _) rfl) ?_; refine zA rfl (zAa (v := .slice _ _ _) rfl rfl) ?_; refine zA rfl (zAa (v := .nilIface) rfl rfl) ?_; refine zA rfl (zA2 (v := .slice _ _ _) rfl) ?_; refine zA rfl (zA2 (v := .nilIface) rfl) ?_; refine zA4 ?_; refine zA6 ?_; refine zA6 (zA1 ?_); refine zA rfl (zA0 (v := .nilIface) rfl) ?_; refine zA rfl (zBf rfl) ?_
  refine zA4 ?_; refine zAx rfl (rfl) ?_; refine zAf ?_; refine zA6 (zA1 ?_); refine zA rfl (zA0 (v := .slice _ _ _) rfl) ?_; refine zAb rfl en68 (zFv ad hs (hs.rdOwn 0 rfl) rfl (by omega)) ?_; clear hs; rintro _ w ⟨rb, rfl, hs⟩; replace hs := hs.drop 1; refine zA rfl (zA2 (v := .pointer (some _)) rfl) ?_; refine zA4 (zA6 (zA1 ?_)); refine zA rfl (zA2 (v := .slice _ _ _) rfl) ?_; refine zA4 (zA6 (zA1 ?_)); refine zA rfl (zA2 (v := .slice _ _ _) rfl) ?_; refine zA4 ?_; refine zA6 ?_; refine zA6 (zA1 ?_); refine zA rfl (zA0 (v := .pointer (some _)) rfl) ?_; refine zAb rfl zDr (zBs (most := 4096) hW hs (by omega) hd0 (by omega) (by omega)) ?_; clear hs; rintro _ w ⟨rfl, hs⟩
  have hd1 : B.drop (0 + (zB4 N).length) = _ := zBm hd0; generalize 0 + (zB4 N).length = p1 at hs hd1; refine zA rfl (zA2 (v := .int .u64 _) rfl) ?_; refine zA4 ?_; replace hs := ((hs.addE (zEg 7 _)).addE (zDo _)).arr [2, 1, 0] 3 (by decide); refine zAw ?_
  refine zBw (X := Nat × SA × SA × Nat × List R7) [7, 8, 9, 29, 30, 31, 32, 33, 34, 35, 36, 37, 38, 39, 40, 41, 42, 43, 44, 45, 46, 47, 48, 49] (fun q => [(9, .int .u64 ((N - q.1 : Nat) : Int)), (7, .slice q.2.1.1 q.1 q.2.1.2), (8, .slice q.2.2.1.1 q.1 q.2.2.1.2)]) (fun q w => q.1 ≤ N ∧ q.2.2.2.2.map (·.2) = its.take q.1 ∧ B.drop q.2.2.2.1 = (its.drop q.1).flatMap itB ∧ Mem g w (zFc rb ad B (q.2.2.2.1, 0) :: zFp 7 (.slice q.2.1.1 q.1 q.2.1.2) ((its.take q.1).map z7L) :: own (.slice q.2.2.1.1 q.1 q.2.2.1.2) (q.2.2.2.2.map rawV) :: (q.2.2.2.2.map rawC ++ L))) (fun q => N - q.1) ((0, (none, 0), (none, 0), p1, [])) ?_ ?_ ?_
  · exact ⟨rfl, rfl, rfl, trivial⟩
  · exact ⟨Nat.zero_le _, rfl, hd1, hs⟩
  clear hs; rintro x ξ w hI; obtain ⟨k, s7, s8, p, rws⟩ := x; obtain ⟨hk, hrw, hd, hs⟩ := hI; simp only at hk hrw hd hs
  show cw _ _ _ _ _ _ (updL (mix _ ξ _) [(9, .int .u64 ((N - k : Nat) : Int)), (7, .slice s7.1 k s7.2), (8, .slice s8.1 k s8.2)]) w
  refine zA6 ?_; refine zA6 (zA1 ?_); refine zA rfl (zA0 (v := .int .u64 _) rfl) ?_; refine zA rfl (zBi rfl rfl) ?_; refine zA rfl (zA0 (v := .bool _) rfl) ?_; refine zBa (t := _) (d := 31) rfl ?_ ?_
  ·
   intro h30; have g30 := of_decide_eq_true h30; obtain ⟨i, hi⟩ : ∃ i, its[k]? = some i := ⟨_, List.getElem?_eq_getElem (by omega)⟩; have hfi := hF i (List.mem_of_getElem? hi); obtain ⟨hki, hke⟩ := List.getElem?_eq_some_iff.1 hi; have hml := mfB_len (x := i.m) (by rw [hfi.1]); have hst := hfi.2; have hst8 := st8 hfi
   have hrl : rws.length = k := by have h1 := congrArg List.length hrw; rw [List.length_map, List.length_take] at h1; omega
   have hd : B.drop p = UInt8.ofNat i.st.toNat :: (zB4 (mfB i.m).length ++ (mfB i.m ++ (its.drop (k + 1)).flatMap itB)) := by rw [hd, List.drop_eq_getElem_cons hki, hke]; simp [itB]
   have hzl : ((its.take k).map z7L).length = k := by rw [List.length_map, List.length_take]; omega
   refine zAi rfl rfl h30 ?_; refine zA rfl (zA0 (v := .pointer (some _)) rfl) ?_; refine zAi rfl rfl h30 ?_; refine zAb rfl en70 (errOK_sl hs) ?_; clear hs; rintro _ w ⟨rfl, hs⟩; refine zAi rfl rfl h30 ?_; refine zA rfl (zEf rfl) ?_; refine zA rfl (zAj (v := .bool _) rfl h30 rfl) ?_; refine zA4 ?_; refine zBb rfl (rfl) ?_; refine zAf ?_; refine zA6 ?_; refine zAw ?_; refine zA6 (zA1 ?_); refine zA rfl (zA0 (v := .slice _ _ _) rfl) ?_; refine zA rfl (zA0 (v := .pointer (some _)) rfl) ?_; refine zAb rfl en111 (fixOK_sl hW hs (by omega) hd) ?_; clear hs; rintro _ w ⟨rfl, hs⟩; have he1 : B.drop (p + 1) = _ := zBm (x := [UInt8.ofNat i.st.toNat]) hd; rw [hst8]
   refine zA rfl (zAh zBj uz3 rfl (c := i.st) (wrapZ (by omega) (by omega))) ?_; refine zA rfl (zC3 (cs := [.int .i64 i.st, .int .i64 0, .int .i64 0, .int .i64 0, .int .i64 0, .slice none 0 0, .slice none 0 0]) uz85 ze85 pl85 rfl) ?_; refine zAz hs rfl (row := z7L i) uz175 zsIt rfl (fill_it i) (by decide) (by decide) ?_; clear hs; intro b43 w hs; refine zAv hs rfl 2 0 rfl rfl uz175 uz175 in85 rfl rfl (by rfl) rfl rfl (by rw [hzl]; omega) (by rw [hzl]; omega) ?_; clear hs; intro a44 c44 w hs; simp only [List.set_cons_succ, List.set_cons_zero] at hs; replace hs := hs.tail; rw [hzl] at hs ⊢; refine zA rfl (zA2 (v := .slice _ _ _) rfl) ?_; refine zA4 ?_; refine zA1 ?_
   refine zA rfl (zA0 (v := .slice _ _ _) rfl) ?_; refine zA rfl (zA0 (v := .pointer (some _)) rfl) ?_; refine zAb rfl en112 (bytesOK_sl (most := 65536) hW hs (by omega) he1 (by omega) (by omega)) ?_; clear hs; rintro _ w ⟨s47, rfl, hs⟩; have he2 : B.drop (p + 1 + (zB4 (mfB i.m).length).length + (mfB i.m).length) = _ := zBm (zBm he1); generalize p + 1 + (zB4 (mfB i.m).length).length + (mfB i.m).length = q1 at hs he2; refine zC7 hs rfl ([rawV (s47, i)]) uz176 zs23 rfl (by intro u hu; rw [List.mem_singleton.1 hu]; rfl) rfl rfl rfl ?_; clear hs; intro b48 w hs
   try simp only [List.set_cons_succ, List.set_cons_zero] at hs
   refine zCh hs rfl 4 rfl uz176 in23 rfl rfl rfl (zC5 (P := Tryz.prog) uz176 ((Rd.cells (n := 1) (cs := [rawV (s47, i)]) 0 rfl rfl).seq hs) (rawV_one [(s47, i)])) (by rw [List.length_map, hrl]; simp; omega) (by rw [List.length_map, hrl]; simp; omega) ?_; clear hs; intro a49 c49 w hs; simp only [List.set_cons_succ, List.set_cons_zero] at hs; refine zA rfl (zA2 (v := .slice _ _ _) rfl) ?_; refine zA4 ?_; refine zA1 ?_; refine zA rfl (zA0 (v := .int .u64 _) rfl) ?_; refine zA rfl (zBo rfl rfl) ?_; refine zA rfl (zA2 (v := .int .u64 _) rfl) ?_; refine zA4 ?_
   have hw : IntKind.u64.wrap (((N - k : Nat) : Int) - 1) = ((N - (k + 1) : Nat) : Int) := by rw [zB]; omega
   have hal : (rws.map rawV).length + [rawV (s47, i)].length = k + 1 := by rw [List.length_map, hrl]; rfl
   rw [hal] at hs ⊢; have h3 := hs.tail.arr [1, 2, 3, 0] 4 (by decide); exact ⟨(k + 1, (a44, c44), (a49, c49), q1, rws ++ [(s47, i)]), by simp only; omega, ⟨by simp only; omega, by simp only [List.map_append, hrw, List.take_add_one, hi]; rfl, he2, by simp only [List.take_add_one, hi, Option.toList, List.map_append, List.map_cons, List.map_nil, List.append_assoc, List.cons_append, List.nil_append]; exact (Mem.behind (X := [_, _, _] ++ rws.map rawC) (hs.tail))⟩, ⟨congrArg (Value.int .u64) hw, rfl, rfl, trivial⟩, by repeat (first | exact Out.mix _ _ _ | refine Out.updo rfl ?_ | refine Out.upd rfl ?_ | refine Out.mixIn rfl ?_)⟩
  ·
   intro h30; have g30 := of_decide_eq_false h30
   have hkN : k = N := by omega
   subst hkN; have hall : its.drop k = [] := List.drop_eq_nil_iff.2 (by omega); have hta : its.take k = its := List.take_of_length_le (by omega); rw [hall] at hd; rw [hta] at hs hrw; have hpl : B.length ≤ p := List.drop_eq_nil_iff.1 hd; refine zAc rfl rfl rfl h30 ?_; refine zAc rfl rfl rfl h30 ?_; refine zAc rfl rfl rfl h30 ?_; refine zA rfl (zAk (v := .bool _) rfl h30 rfl) ?_; refine zA4 ?_; refine zAx rfl rfl ?_; refine zBg rfl ?_; refine zA6 ?_; refine zA6 (zA1 ?_); refine zA rfl (zA0 (v := .pointer (some _)) rfl) ?_; refine zAb rfl en70 (errOK_sl hs) ?_; clear hs; rintro _ w ⟨rfl, hs⟩; refine zA rfl (zBf rfl) ?_; refine zA4 ?_; refine zAx rfl (rfl) ?_; refine zAf ?_; refine zA6 ?_
   refine zA6 (zA1 ?_); refine zA rfl (zA0 (v := .slice _ _ _) rfl) ?_; refine zA rfl (zB2 uz175 rfl) ?_; refine zA rfl (zA0 (v := .int .i64 _) rfl) ?_; refine zA4 ?_; refine zAw ?_; refine zBw (X := Nat × List T7) [2, 3, 5, 10, 57, 58, 59, 60, 61, 62, 63, 64, 65, 66, 67, 68, 69, 70, 71, 72, 73, 74, 75] (fun q => [(57, .int .i64 (q.1 : Nat))]) (fun q w => q.1 ≤ k ∧ q.2.map (·.1) = its.take q.1 ∧ Mem g w (zFc rb ad B (p, 0) :: zFp 7 (.slice s7.1 k s7.2) (q.2.map t7L ++ (its.drop q.1).map z7L) :: own (.slice s8.1 k s8.2) (rws.map rawV) :: (rws.map rawC ++ (q.2.flatMap t7P ++ L)))) (fun q => k - q.1) ((0, [])) ?_ ?_ ?_
   · exact ⟨rfl, trivial⟩
   · exact ⟨Nat.zero_le _, rfl, hs⟩
   clear hs; rintro x ξ w hI; obtain ⟨j, ds⟩ := x; obtain ⟨hj, hds, hs⟩ := hI; simp only at hj hds hs
   show cw _ _ _ _ _ _ (updL (mix _ ξ _) [(57, .int .i64 (j : Nat))]) w
   refine zA6 (zA1 ?_); refine zA rfl (zB7 rfl rfl) ?_; refine zA4 ?_; refine zA6 ?_; refine zB8 rfl ?_ ?_
   ·
    intro h58; have g58 := of_decide_eq_true h58; obtain ⟨i, hi⟩ : ∃ i, its[j]? = some i := ⟨_, List.getElem?_eq_getElem (by omega)⟩; have hfi := hF i (List.mem_of_getElem? hi); obtain ⟨s, hrj⟩ := rws_at hrw hi
    have hdl : ds.length = j := by have h1 := congrArg List.length hds; rw [List.length_map, List.length_take] at h1; omega
    have hcap := (hs.ownForm (3 + j) (raw_at hrj)).2.1; obtain ⟨b8, o8, hb8, _⟩ := (Rd.own (g := g) (L := _ :: _ :: own (.slice s8.1 k s8.2) (rws.map rawV) :: (rws.map rawC ++ (ds.flatMap t7P ++ L))) 2 rfl).cells' hs (by rw [List.length_map]; have := (List.getElem?_eq_some_iff.1 hrj).1; omega); obtain ⟨b7, o7, hb7⟩ := (RdK.row (g := g) (L := _ :: zFp 7 (.slice s7.1 k s7.2) (ds.map t7L ++ (its.drop j).map z7L) :: _ :: (rws.map rawC ++ (ds.flatMap t7P ++ L))) 1 rfl).at hs (by have := (List.getElem?_eq_some_iff.1 (rows_at hdl hi)).1; omega); obtain ⟨sa7, sc7⟩ := s7; obtain ⟨sa8, sc8⟩ := s8; simp only at hb7 hb8; subst hb7; subst hb8; refine zAf ?_; refine zA6 ?_; refine zAw ?_
    refine zA6 (zA1 ?_); refine zA rfl (zA0 (v := .int .i64 _) rfl) ?_; refine zA rfl (zA2 (v := .int .i64 _) rfl) ?_; refine zA4 (zA6 (zA1 ?_)); refine zA rfl (zA0 (v := .slice _ _ _) rfl) ?_; refine zA rfl (zA0 (v := .int .i64 _) rfl) ?_; refine zA rfl (zA0 (v := .slice _ _ _) rfl) ?_; refine zA rfl (zA0 (v := .int .i64 _) rfl) ?_; refine zA rfl (zBk uz176 sz23 rfl rfl rfl (by omega) rfl) ?_; refine zA rfl (zA8 zC0 rfl rfl (hs.ownAt 2 rfl (j := j) (v := rawV (s, i)) (by simp [hrj]))) ?_; refine zAb rfl en113 (maniR_sl hP hW hE hs (m := i.m) (hs.rdOwn (3 + j) (raw_at hrj)) rfl hcap hfi.1 hfi.2.2.2) ?_; clear hs; rintro _ w ⟨s1, s2, rfl, hs⟩
    simp only [mfP, List.cons_append, List.nil_append] at hs; refine zA rfl (zA0 (v := .tuple _) rfl) ?_; refine zA rfl (zAa (v := .agg _) rfl rfl) ?_; refine zA rfl (zAa (v := .nilIface) rfl rfl) ?_; refine zA rfl (zB0 uz175 sz85 rfl rfl rfl (by omega) rfl) ?_; refine zA rfl (zA3 uz85 rfl zDf rfl rfl rfl) ?_; refine lw_storeRowK hs 3 (vs := mfL i.m s1 s2) (j := 1) (q := j) rfl zDf rfl (rows_at hdl hi) (Nat.le_refl 7) (Nat.succ_pos 5) rfl rfl (fun v hv => t7L_one (i, s1, s2) v (List.mem_cons_of_mem _ hv)) ?_; clear hs; intro w hs; simp only [List.set_cons_succ, List.set_cons_zero] at hs; rw [z7_set, rows_next hdl hi] at hs; refine zA rfl (zA2 (v := .nilIface) rfl) ?_
    refine zA4 (zA6 (zA1 ?_)); refine zA rfl (zA0 (v := .nilIface) rfl) ?_; refine zA rfl (zBf rfl) ?_; refine zA4 ?_; refine zAx rfl (rfl) ?_; refine zAf ?_; refine zA1 ?_; refine zA rfl (zAs rfl rfl rfl (inI (by omega) (by omega))) ?_; refine zA rfl (zA0 (v := .int .i64 _) rfl) ?_; refine zA4 ?_; have h5 := hs; rw [← List.append_assoc (rws.map rawC) (ds.flatMap t7P) L] at h5; have h6 := Mem.behindL (A := [_, _]) (X := [_, _, _] ++ (rws.map rawC ++ ds.flatMap t7P)) (Y := L) h5
    exact ⟨(j + 1, ds ++ [(i, s1, s2)]), by simp only; omega, ⟨by simp only; omega, by simp only [List.map_append, hds, List.take_add_one, hi]; rfl, by simp only [List.flatMap_append, List.flatMap_cons, List.flatMap_nil, List.append_nil, List.append_assoc, List.cons_append, List.nil_append, t7P, mfP] at h6 ⊢; exact h6⟩, ⟨rfl, trivial⟩, by repeat (first | exact Out.mix _ _ _ | refine Out.updo rfl ?_ | refine Out.upd rfl ?_ | refine Out.mixIn rfl ?_)⟩
   ·
    intro h58; have g58 := of_decide_eq_false h58
    have hjN : j = k := by omega
    subst hjN; rw [hall] at hs; rw [hta] at hds; simp only [List.map_nil, List.append_nil] at hs; replace hs := Mem.less (A := [_, _]) (X := _ :: rws.map rawC) (Y := ds.flatMap t7P ++ L) hs; simp only [List.cons_append, List.nil_append] at hs
    have hdl : ds.length = j := by have h1 := congrArg List.length hds; rw [List.length_map] at h1; omega
    refine zBg rfl ?_; refine zA6 ?_; refine zA6 (zA1 ?_); refine zA rfl (zA0 (v := .slice _ _ _) rfl) ?_; refine zA rfl (zB2 uz175 rfl) ?_; refine zA rfl (zA0 (v := .int .i64 _) rfl) ?_; refine zA4 ?_; refine zAw ?_; refine zBw (X := Nat) [2, 3, 12, 78, 79, 80, 81, 82, 83, 84, 85, 86, 87, 88, 89, 90, 91] (fun q => [(78, .int .i64 (q : Nat))]) (fun q w => q ≤ j ∧ Mem g w (zFc rb ad B (p, 0) :: zFp 7 (.slice s7.1 j s7.2) (ds.map t7L) :: (ds.flatMap t7P ++ L))) (fun q => j - q) (0) ?_ ?_ ?_
    · exact ⟨rfl, trivial⟩
    · exact ⟨Nat.zero_le _, hs⟩
    clear hs; rintro x ξ w hI; obtain ⟨hx, hs⟩ := hI; refine zA6 (zA1 ?_); refine zA rfl (zB7 rfl rfl) ?_; refine zA4 ?_; refine zA6 ?_; refine zB8 rfl ?_ ?_
    ·
     intro h79; have g79 := of_decide_eq_true h79; obtain ⟨i, hi⟩ : ∃ i, its[x]? = some i := ⟨_, List.getElem?_eq_getElem (by omega)⟩; have hfi := hF i (List.mem_of_getElem? hi); obtain ⟨e, o, hdx⟩ := ds_at hds hi; have hrk := RdK.row (g := g) (L := zFc rb ad B (p, 0) :: zFp 7 (.slice s7.1 j s7.2) (ds.map t7L) :: (ds.flatMap t7P ++ L)) 1 rfl; obtain ⟨b7, o7, hb7⟩ := hrk.at hs (by rw [List.length_map]; omega); have hst := hfi.2; obtain ⟨sa7, sc7⟩ := s7; simp only at hb7; subst hb7; refine zAf ?_; refine zA6 ?_; refine zAw ?_; refine zA6 (zA1 ?_); refine zA rfl (zB0 uz175 sz85 rfl rfl rfl (by omega) rfl) ?_
     refine zA rfl (zD4 (cs := t7L (i, e, o)) uz85 sz85 rfl (fun j v hj => hrk.cell hs (t7L_at hdx) hj)) ?_; refine zBd hs rfl ze85 ?_; clear hs; intro b12 w hs
     try simp only [List.set_cons_succ, List.set_cons_zero] at hs
     refine zAn hs 0 rfl rfl rfl sz85 rfl rfl ?_; clear hs; intro w hs
     try simp only [List.set_cons_succ, List.set_cons_zero] at hs
     refine zA4 (zA6 (zA1 ?_)); refine zA rfl (zA3 (o' := 0) uz85 rfl sz3 rfl rfl rfl) ?_; refine zA rfl (zA8 uz3 rfl rfl (hs.cellAt 0 rfl rfl)) ?_; refine zA rfl (zB7 rfl rfl) ?_; refine zA rfl (zA0 (v := .bool _) rfl) ?_; refine zAi rfl rfl (decide_eq_false (by show ¬ i.st < 1; omega)) ?_; refine zA rfl (zA3 (o' := 0) uz85 rfl sz3 rfl rfl rfl) ?_; refine zAi rfl rfl (decide_eq_false (by show ¬ i.st < 1; omega)) ?_; refine zA rfl (zA8 uz3 rfl rfl (hs.cellAt 0 rfl rfl)) ?_; refine zAi rfl rfl (decide_eq_false (by show ¬ i.st < 1; omega)) ?_; refine zA rfl (zBi rfl rfl) ?_; refine zA rfl (zAk (v := .bool _) rfl (decide_eq_false (by show ¬ i.st < 1; omega)) rfl) ?_; refine zA4 ?_
     refine zAx rfl (decide_eq_false (by show ¬ 4 < i.st; omega)) ?_; refine zAf ?_; refine zA1 ?_; refine zA rfl (zAs rfl rfl rfl (inI (by omega) (by omega))) ?_; refine zA rfl (zA0 (v := .int .i64 _) rfl) ?_; refine zA4 ?_; exact ⟨x + 1, by omega, ⟨by omega, hs.tail⟩, ⟨rfl, trivial⟩, by repeat (first | exact Out.mix _ _ _ | refine Out.updo rfl ?_ | refine Out.upd rfl ?_ | refine Out.mixIn rfl ?_)⟩
    ·
     intro h79; have g79 := of_decide_eq_false h79
     skip
     refine zBg rfl ?_; refine zA6 (zA1 ?_); refine zAb rfl en11 (newv_sl hs) ?_; clear hs; rintro _ w ⟨pv, rfl, hs⟩; refine zA rfl (zA2 (v := .pointer (some _)) rfl) ?_; refine zA4 (zA6 (zA1 ?_)); refine zA rfl (zA2 (v := .int .i64 _) rfl) ?_; refine zA4 ?_; refine zA6 ?_; refine zA6 (zA1 ?_); refine zA rfl (zA0 (v := .slice _ _ _) rfl) ?_; refine zA rfl (zB2 uz175 rfl) ?_; refine zA rfl (zA0 (v := .int .i64 _) rfl) ?_; refine zA4 ?_; refine zAw ?_
     refine zBw (X := Nat × Int) [2, 3, 14, 16, 95, 96, 97, 98, 99, 100, 101, 102, 103, 104, 105, 106, 107, 108, 109, 110, 111, 112, 113, 114, 115, 116] (fun q => [(95, .int .i64 (q.1 : Nat)), (14, .int .i64 q.2)]) (fun q w => q.1 ≤ j ∧ (∀ i, its[q.1]? = some i → q.2 < i.m.id) ∧ Mem g w (zFm pv (vwOf (its.take q.1)) :: zFc rb ad B (p, 0) :: zFp 7 (.slice s7.1 j s7.2) (ds.map t7L) :: ((ds.drop q.1).flatMap t7P ++ L))) (fun q => j - q.1) ((0, -1)) ?_ ?_ ?_
     · exact ⟨rfl, rfl, trivial⟩
     · exact ⟨Nat.zero_le _, fun i hi => by have := mf_id (x := i.m) (by rw [(hF i (List.mem_of_getElem? hi)).1]); simp only; omega, hs⟩
     clear hs; rintro x ξ w hI; obtain ⟨z, la⟩ := x; obtain ⟨hx, hla, hs⟩ := hI; simp only at hx hla hs
     show cw _ _ _ _ _ _ (updL (mix _ ξ _) [(95, .int .i64 (z : Nat)), (14, .int .i64 la)]) w
     refine zA6 (zA1 ?_); refine zA rfl (zB7 rfl rfl) ?_; refine zA4 ?_; refine zA6 ?_; refine zB8 rfl ?_ ?_
     ·
      intro h96; have g96 := of_decide_eq_true h96; obtain ⟨i, hi⟩ : ∃ i, its[z]? = some i := ⟨_, List.getElem?_eq_getElem (by omega)⟩; have hfi := hF i (List.mem_of_getElem? hi); obtain ⟨e, o, hdx⟩ := ds_at hds hi; have hlt := hla i hi; obtain ⟨hz1, hz2⟩ := List.getElem?_eq_some_iff.1 hdx; rw [List.drop_eq_getElem_cons hz1, hz2, List.flatMap_cons] at hs; obtain ⟨hok, m, es, hs⟩ := hs.openV; simp only [viewP, t7P, mfP, List.cons_append, List.nil_append] at hs
      have hrk := RdK.row (g := g) (L := cells pv [.map (some m)] 79 :: mapV m es :: famC itmC es (vwOf (its.take z)) :: zFc rb ad B (p, 0) :: zFp 7 (.slice s7.1 j s7.2) (ds.map t7L) :: zFp 2 (.slice e.1 i.m.eps.length e.2) (i.m.eps.map prL) :: zFp 3 (.slice o.1 i.m.obs.length o.2) (i.m.obs.map obL) :: ((ds.drop (z + 1)).flatMap t7P ++ L)) 4 rfl; obtain ⟨b7, o7, hb7⟩ := hrk.at hs (by rw [List.length_map]; omega); have hst := hfi.2; obtain ⟨sa7, sc7⟩ := s7; simp only at hb7; subst hb7; refine zAf ?_; refine zA6 ?_; refine zAw ?_; refine zA6 (zA1 ?_); refine zA rfl (zB0 uz175 sz85 rfl rfl rfl (by omega) rfl) ?_
      refine zA rfl (zD4 (cs := t7L (i, e, o)) uz85 sz85 rfl (fun j v hj => hrk.cell hs (t7L_at hdx) hj)) ?_; refine zBd hs rfl ze85 ?_; clear hs; intro b16 w hs
      try simp only [List.set_cons_succ, List.set_cons_zero] at hs
      refine zAn hs 0 rfl rfl rfl sz85 rfl rfl ?_; clear hs; intro w hs
      try simp only [List.set_cons_succ, List.set_cons_zero] at hs
      refine zA4 ?_; refine zA6 ?_; refine zA6 (zA1 ?_); refine zA rfl (zA3 (o' := 1) uz85 rfl zDf rfl rfl rfl) ?_; refine zA rfl (zA3 zBx rfl sz3 rfl rfl rfl) ?_; refine zA rfl (zA8 uz3 rfl rfl (hs.cellAt 0 rfl rfl)) ?_; refine zA rfl (zA0 (v := .int .i64 _) rfl) ?_; refine zA rfl (zDy rfl rfl) ?_; refine zA4 ?_; refine zAx rfl (decide_eq_false (by show ¬ i.m.id ≤ la; omega)) ?_; refine zAf ?_; refine zA6 (zA1 ?_); refine zA rfl (zA3 (o' := 1) uz85 rfl zDf rfl rfl rfl) ?_; refine zA rfl (zA3 zBx rfl sz3 rfl rfl rfl) ?_; refine zA rfl (zA8 uz3 rfl rfl (hs.cellAt 0 rfl rfl)) ?_; refine zA rfl (zA2 (v := .int .i64 _) rfl) ?_; refine zA4 ?_; refine zAy zBv (hs.drop 2) ?_; intro w tr hK
      replace hs := tr _ hs; clear tr; refine zA5 0 rfl rfl (fun w hs => zA0 (v := .pointer (some _)) rfl) hK ?_; refine zA5 1 rfl rfl (fun w hs => zA7 rfl) hK ?_; refine zA5 2 rfl rfl (fun w hs => zA3 (o' := 0) uz79 rfl sz77 rfl rfl rfl) hK ?_; refine zA5 3 rfl rfl (fun w hs => zA8 uz77 rfl rfl (hs.cellAt 1 rfl rfl)) hK ?_; refine zA5 4 rfl rfl (fun w hs => zA3 (o' := 1) uz85 rfl zDf rfl rfl rfl) hK ?_; refine zA5 5 rfl rfl (fun w hs => zA3 zBx rfl sz3 rfl rfl rfl) hK ?_; refine zA5 6 rfl rfl (fun w hs => zA8 uz3 rfl rfl (hs.cellAt 0 rfl rfl)) hK ?_; refine zA5 7 rfl rfl (fun w hs => zBc hs 0 rfl uz85 sz85 rfl) hK ?_; refine zA9 [8] ?_; refine ⟨⟨_, rfl, ?_⟩, trivial⟩
      refine zE0 (v := .agg _) hs 2 rfl zF8 uz77 uz3 rfl rfl rfl ?_; clear hs; intro w hs
      try simp only [List.set_cons_succ, List.set_cons_zero] at hs
      clear hK; have hK := hs.drop 2; refine zA4 ⟨hK, ?_⟩; refine zAp (by kernel_rfl) ?_; clear hK; refine zA1 ?_; refine zA rfl (zAs rfl rfl rfl (inI (by omega) (by omega))) ?_; refine zA rfl (zA0 (v := .int .i64 _) rfl) ?_; refine zA4 ?_; have h1 := Mem.closeItm (i := i) (e := e) (o := o) (hs.arr [6, 7, 1, 2, 3, 4, 5] 8 (by decide)); have h2 := Mem.famPut (R := itmC) (k := i.m.id) h1 2 rfl (fun _ h => False.elim h); have hnx := vwOf_next hi hR
      have hok2 : Vw.ok (zCd (vwOf (its.take z)) i.m.id i) := by rw [hnx]; exact vwOf_ok (by rw [List.length_take]; omega) (fun x hx => hF x (List.mem_of_mem_take hx)) (hR.take)
      exact ⟨(z + 1, i.m.id), by simp only; omega, ⟨by simp only; omega, fun y hy => by obtain ⟨q1, q2⟩ := List.getElem?_eq_some_iff.1 hy; obtain ⟨q3, q4⟩ := List.getElem?_eq_some_iff.1 hi; have := List.pairwise_iff_getElem.1 hR z (z + 1) q3 q1 (by omega); rw [q2, q4] at this; exact this, by simp only [← hnx]; exact Mem.closeV hok2 h2⟩, ⟨rfl, rfl, trivial⟩, by repeat (first | exact Out.mix _ _ _ | refine Out.updo rfl ?_ | refine Out.upd rfl ?_ | refine Out.mixIn rfl ?_)⟩
     ·
      intro h96; have g96 := of_decide_eq_false h96
      have hzN : z = j := by omega
      subst hzN; rw [hta] at hs; have hdn : ds.drop z = [] := List.drop_eq_nil_iff.2 (by omega); rw [hdn] at hs; replace hs := hs.arr [1, 0] 3 (by decide); refine zBg rfl ?_; refine zA6 ?_; refine zA6 (zA1 ?_); refine zA rfl (zA0 (v := .pointer (some _)) rfl) ?_; refine zAb rfl en114 (left_sl hs (by omega)) ?_; clear hs; rintro _ w ⟨rfl, hpl2, hs⟩; refine zA rfl (zBi rfl rfl) ?_; refine zA4 ?_; refine zAx rfl (decide_eq_false (by omega)) ?_; refine zAf ?_; refine zA6 (zA1 ?_); refine zA rfl (zA0 (v := .pointer (some _)) rfl) ?_; refine zA rfl (zA2 (v := .pointer (some _)) rfl) ?_; refine zA rfl (zA2 (v := .nilIface) rfl) ?_; refine zA4 ?_; refine zAg ?_
      refine res2 (v := .pointer (some _)) (v2 := .nilIface) rfl rfl rfl ?_; exact ⟨_, rfl, pv, rfl, hs.tail⟩
end Go.Proofs.YtdkgdjnbpjjfmaaGreatDoor
namespace Go.Proofs.YtdkgdjnbpjjfmaaGreatDoor
set_option linter.all false
open Go.RowKit
attribute [local irreducible] zAq
variable {g w : World} {L M : List HP} {ad : Nat → Addr} {p q : Nat} {V U : Vw}

/-- The same segments, states and manifests. -/
def SameP (V U : Vw) : Prop := V.length = U.length ∧ ∀ k i, zB5 V k = some i → zB5 U k = some i
theorem itmEq_sl (hs : Mem g w L) {i i' : Itm} {e o e' o' : SA} (h1 : MfR g L i.m e o) (h2 : MfR g L i'.m e' o') (h3 : i.m.eps.length ≤ 1000000) (h4 : i.m.obs.length ≤ 1000000) :
    Calls Tryz.prog 50 #[itmV i e o, itmV i' e' o'] w (Ret fun v w' => v = .bool (decide (i = i')) ∧ Mem g w' L) := by
  obtain ⟨s, m⟩ := i; obtain ⟨s', m'⟩ := i'; refine zAo Tryz.func50 rfl rfl ?_
  skip
  refine zA6 (zA1 ?_); refine zCj (v := .agg _) hs rfl rfl ?_; clear hs; intro b2 w hs
  try simp only [List.set_cons_succ, List.set_cons_zero] at hs
  refine zCj (v := .agg _) hs rfl rfl ?_; clear hs; intro b3 w hs
  try simp only [List.set_cons_succ, List.set_cons_zero] at hs
  refine zA rfl (zA2 (v := .bool _) rfl) ?_; refine zA4 (zA6 (zA1 ?_)); refine zA rfl (zA3 (o' := 0) uz85 rfl sz3 rfl rfl rfl) ?_; refine zA rfl (zA8 uz3 rfl rfl (hs.cellAt 1 rfl rfl)) ?_; refine zA rfl (zA3 (o' := 0) uz85 rfl sz3 rfl rfl rfl) ?_; refine zA rfl (zA8 uz3 rfl rfl (hs.cellAt 0 rfl rfl)) ?_; refine zA rfl (zBn rfl rfl) ?_; refine zA rfl (zA0 (v := .bool _) rfl) ?_; refine zBa (t := _) (d := 10) rfl ?_ ?_
  ·
   intro h9; have g9 := of_decide_eq_true h9; refine zAi rfl rfl h9 ?_; refine zA rfl (zA3 (o' := 1) uz85 rfl zDf rfl rfl rfl) ?_; refine zAi rfl rfl h9 ?_; refine zA rfl (zCw hs 1 (mfL m e o) rfl zBx zDf rfl rfl) ?_; refine zAi rfl rfl h9 ?_; refine zA rfl (zA3 (o' := 1) uz85 rfl zDf rfl rfl rfl) ?_; refine zAi rfl rfl h9 ?_; refine zA rfl (zCw hs 0 (mfL m' e' o') rfl zBx zDf rfl rfl) ?_; refine zAi rfl rfl h9 ?_; refine zAb rfl en42 (sameM_sl hs h1.cons.cons h2.cons.cons h3 h4) ?_; clear hs; rintro _ w ⟨rfl, hs⟩; refine zA rfl (zAj (v := .bool _) rfl h9 rfl) ?_; refine zA rfl (zA2 (v := .bool _) rfl) ?_; refine zA4 ?_; refine zAg ?_; refine zBl (v := .bool _) rfl rfl ?_
   have hq : s = s' := g9; exact ⟨_, rfl, zDa (by rw [hq]; simp), hs.tail.tail⟩
  ·
   intro h9; have g9 := of_decide_eq_false h9; refine zAc rfl rfl rfl h9 ?_; refine zAc rfl rfl rfl h9 ?_; refine zAc rfl rfl rfl h9 ?_; refine zAc rfl rfl rfl h9 ?_; refine zAc rfl rfl rfl h9 ?_; refine zA rfl (zAk (v := .bool _) rfl h9 rfl) ?_; refine zA rfl (zA2 (v := .bool _) rfl) ?_; refine zA4 ?_; refine zAg ?_; refine zBl (v := .bool _) rfl rfl ?_; exact ⟨_, rfl, zDa (by have hq : ¬ s = s' := g9; simp [hq]), hs.tail.tail⟩
theorem same_step {es1 left : List (Int × Value)} {k : Int} (hn : (zAl left).Nodup) (hin : ∀ j i, zB5 V j = some i → zB5 left j = none → zB5 U j = some i) {i : Itm} (h1 : zB5 V k = some i) (h2 : zB5 U k = some i) : ∀ j x, zB5 V j = some x → zB5 (zE8 left k) j = none → zB5 U j = some x := fun j x h h3 => by
  by_cases e : j = k
  · subst e; rw [h1] at h; cases h; exact h2
  · rw [zCk _ e] at h3; exact hin j x h h3
theorem same_sub {es1 left : List (Int × Value)} {k : Int} (hn : (zAl left).Nodup) (hsub : ∀ k v, zB5 left k = some v → zB5 es1 k = some v) : ∀ j v, zB5 (zE8 left k) j = some v → zB5 es1 j = some v := fun j v hj => by
  by_cases e : j = k
  · subst e; rw [zEv hn] at hj; cases hj
  · rw [zCk _ e] at hj; exact hsub j v hj
set_option maxHeartbeats 2000000 in
theorem eqF_sl {m1 m2 : Nat} {es1 es2 : List (Int × Value)} (ho : V.ok) (ho2 : U.ok) (hs : Mem g w (mapV m1 es1 :: famC itmC es1 V :: mapV m2 es2 :: famC itmC es2 U :: L)) :
    Calls Tryz.prog 49 #[.map (some m1), .map (some m2), .func (.func 50) #[] #[]] w (Ret fun v w' => (∃ b, v = .bool b ∧ (b = true ↔ SameP V U)) ∧ Mem g w' (mapV m1 es1 :: famC itmC es1 V :: mapV m2 es2 :: famC itmC es2 U :: L)) := by
  have hk1 := hs.famKeys 1 rfl; have hk2 := hs.famKeys 3 rfl; have hl1 := keys_len hk1; have hl2 := keys_len hk2; refine zAo Tryz.func49 rfl rfl ?_
  skip
  refine zA6 (zA1 ?_); refine zA rfl (zA2 (v := .bool _) rfl) ?_; refine zA4 ?_; refine zA6 ?_; refine zA6 (zA1 ?_); refine zA rfl (zA0 (v := .map _) rfl) ?_; refine zA rfl (run_lenM (hs.mapAt 0 rfl) uz77 rfl) ?_; refine zA rfl (zA0 (v := .map _) rfl) ?_; refine zA rfl (run_lenM (hs.mapAt 2 rfl) uz77 rfl) ?_; refine zA rfl (zDh rfl rfl) ?_; refine zA4 ?_; refine zB8 rfl ?_ ?_
  ·
   intro h15; have g15 := ne_t h15; refine zA6 (zA1 ?_); refine zA rfl (zA2 (v := .bool _) rfl) ?_; refine zA4 ?_; refine zAg ?_; refine zBl (v := .bool _) rfl rfl ?_; exact ⟨_, rfl, ⟨false, rfl, ⟨fun h => (by cases h), fun h => absurd h.1 (fun e => g15 (by omega))⟩⟩, hs⟩
  ·
   intro h15; have g15 := ne_f h15; refine zAf ?_; refine zA6 ?_; refine zA6 (zA1 ?_); refine zA rfl (zA0 (v := .map _) rfl) ?_; refine lw_rangeM hs rfl 0 rfl uz77 rfl ?_; clear hs; intro r17 w hs
   try simp only [List.set_cons_succ, List.set_cons_zero] at hs
   refine zA4 ?_; refine zAw ?_; refine zBw (X := List (Int × Value) × Option (Int × Value)) [6, 7, 8, 9, 10, 18, 19, 20, 21, 22, 23, 24, 25, 26, 27, 28, 29, 30, 31, 32, 33, 34, 35, 36, 37] (fun x => []) (fun x w => (zAl x.1).Nodup ∧ (∀ k v, zB5 x.1 k = some v → zB5 es1 k = some v) ∧ (∀ k i, zB5 V k = some i → zB5 x.1 k = none → zB5 U k = some i) ∧ Mem g w (rngC (Value.int .i64) r17 m1 es1 x.1 x.2 :: famC itmC es1 V :: mapV m2 es2 :: famC itmC es2 U :: L)) (fun x => x.1.length) ((es1, none)) ?_ ?_ ?_
   · exact trivial
   · exact ⟨hk1 ▸ ho.nd, fun _ _ h => h, fun k i h h2 => by rw [zBe, hk1] at h2; exact absurd (al_key h) h2, hs⟩
   clear hs; rintro x ξ w hI; obtain ⟨left, cur⟩ := x; obtain ⟨hnd, hsub, hin, hs⟩ := hI; simp only at hnd hsub hin hs; refine zA6 (zA1 ?_); refine lw_nextM hs rfl 0 rfl zF8.inj rfl ?_ ?_
   ·
    intro hl18; subst hl18; refine zA rfl (zAa (v := .bool _) rfl rfl) ?_; refine zA4 ?_; refine zA6 ?_; refine zAx rfl rfl ?_; refine zBg rfl ?_; refine zA6 (zA1 ?_); refine zA rfl (zA2 (v := .bool _) rfl) ?_; refine zA4 ?_; refine zAg ?_; refine zBl (v := .bool _) rfl rfl ?_; exact ⟨_, rfl, ⟨true, rfl, ⟨fun _ => ⟨by omega, fun k i h => hin k i h rfl⟩, fun _ => rfl⟩⟩, hs.rngd 0 rfl⟩
   ·
    clear hs; intro k18 v18 w hk18 hs
    try simp only [List.set_cons_succ, List.set_cons_zero] at hs
    have hes := hsub _ _ hk18; obtain ⟨i, hVi⟩ := zG1 (show k18 ∈ zAl V from hk1 ▸ al_key hes); obtain ⟨e1, o1, hes1, hm1⟩ := hs.itmAt 1 rfl hVi; rw [hes] at hes1
    cases hes1
    have hdl := al_del hk18; have hit := ho.item hVi; refine zA rfl (zAa (v := .bool _) rfl rfl) ?_; refine zA4 ?_; refine zA6 ?_; refine zBb rfl rfl ?_; refine zAf ?_; refine zAw ?_; refine zA6 (zA1 ?_); refine zA rfl (run_entryM hs 0 rfl rfl) ?_; refine zA rfl (zAa (v := .int .i64 _) rfl rfl) ?_; refine zA rfl (zAa (v := .agg _) rfl rfl) ?_; refine zBd hs rfl ze85 ?_; clear hs; intro b8 w hs
    try simp only [List.set_cons_succ, List.set_cons_zero] at hs
    refine zA rfl (zA2 (v := .int .i64 _) rfl) ?_; refine zAn hs 0 rfl rfl rfl sz85 rfl rfl ?_; clear hs; intro w hs
    try simp only [List.set_cons_succ, List.set_cons_zero] at hs
    refine zA4 ?_; refine zA6 ?_
    obtain hU | ⟨i2, hU⟩ : zB5 U k18 = none ∨ ∃ i2, zB5 U k18 = some i2 := by cases zB5 U k18 <;> simp
    ·
     have he2 := fam_none hk2 hU; refine zA1 ?_; refine zA rfl (zA0 (v := .map _) rfl) ?_; refine zA rfl (zA0 (v := .int .i64 _) rfl) ?_; refine zA rfl (zFl (hs.mapAt 3 rfl) zF8 uz77 uz3 ze85 rfl rfl (o := none) he2) ?_; refine zA rfl (zA0 (v := .tuple _) rfl) ?_; refine zA rfl (zAa (v := .agg _) rfl rfl) ?_; refine zA rfl (zAa (v := .bool _) rfl rfl) ?_; refine zBd hs rfl ze85 ?_; clear hs; intro b9 w hs
     try simp only [List.set_cons_succ, List.set_cons_zero] at hs
     refine zAn hs 0 rfl rfl rfl sz85 rfl rfl ?_; clear hs; intro w hs
     try simp only [List.set_cons_succ, List.set_cons_zero] at hs
     refine zA rfl (zA2 (v := .bool _) rfl) ?_; refine zA4 (zA6 (zA1 ?_)); refine zA rfl (zA0 (v := .bool _) rfl) ?_; refine zA rfl (zC4 rfl) ?_; refine zA rfl (zA0 (v := .bool _) rfl) ?_; refine zAc rfl rfl rfl (zCn (rfl)) ?_; refine zAc rfl rfl rfl (zCn (rfl)) ?_; refine zAc rfl rfl rfl (zCn (rfl)) ?_; refine zAc rfl rfl rfl (zCn (rfl)) ?_; refine zAc rfl rfl rfl (zCn (rfl)) ?_; refine zA rfl (zAj (v := .bool _) rfl (zCn (rfl)) rfl) ?_; refine zA4 ?_; refine zBb rfl rfl ?_; refine zA6 (zA1 ?_); refine zA rfl (zA2 (v := .bool _) rfl) ?_; refine zA4 ?_; refine zAg ?_; refine zBl (v := .bool _) rfl rfl ?_
     exact ⟨_, rfl, ⟨false, rfl, ⟨fun h => (by cases h), fun h => by rw [h.2 _ _ hVi] at hU; cases hU⟩⟩, (hs.arr [2, 3, 4, 5] 6 (by decide)).rngd 0 rfl⟩
    ·
     obtain ⟨e2, o2, he2, hm2⟩ := hs.itmAt 4 rfl hU; refine zA1 ?_; refine zA rfl (zA0 (v := .map _) rfl) ?_; refine zA rfl (zA0 (v := .int .i64 _) rfl) ?_; refine zA rfl (zFl (hs.mapAt 3 rfl) zF8 uz77 uz3 ze85 rfl rfl (o := some (itmV i2 e2 o2)) he2) ?_; refine zA rfl (zA0 (v := .tuple _) rfl) ?_; refine zA rfl (zAa (v := .agg _) rfl rfl) ?_; refine zA rfl (zAa (v := .bool _) rfl rfl) ?_; refine zBd hs rfl ze85 ?_; clear hs; intro b9 w hs
     try simp only [List.set_cons_succ, List.set_cons_zero] at hs
     refine zAn hs 0 rfl rfl rfl sz85 rfl rfl ?_; clear hs; intro w hs
     try simp only [List.set_cons_succ, List.set_cons_zero] at hs
     refine zA rfl (zA2 (v := .bool _) rfl) ?_; refine zA4 (zA6 (zA1 ?_)); refine zA rfl (zA0 (v := .bool _) rfl) ?_; refine zA rfl (zC4 rfl) ?_; refine zA rfl (zA0 (v := .bool _) rfl) ?_; refine zAi rfl rfl (zC8 (rfl)) ?_; refine zA rfl (zA0 (v := .func _ _ _) rfl) ?_; refine zAi rfl rfl (zC8 (rfl)) ?_; refine zA rfl (zBc hs 1 rfl uz85 sz85 rfl) ?_; refine zAi rfl rfl (zC8 (rfl)) ?_; refine zA rfl (zBc hs 0 rfl uz85 sz85 rfl) ?_; refine zAi rfl rfl (zC8 (rfl)) ?_; refine zD2 rfl (cap := #[]) en50 rfl (itmEq_sl hs (i := i) (i' := i2) hm1.cons.cons hm2.cons (by omega) (by omega)) ?_; clear hs; rintro _ w ⟨rfl, hs⟩; refine zAi rfl rfl (zC8 (rfl)) ?_; refine zA rfl (zC4 rfl) ?_
     refine zA rfl (zAk (v := .bool _) rfl (zC8 (rfl)) rfl) ?_; refine zA4 ?_; refine zB8 rfl ?_ ?_
     ·
      intro h35; replace h35 := zFu h35; refine zA6 (zA1 ?_); refine zA rfl (zA2 (v := .bool _) rfl) ?_; refine zA4 ?_; refine zAg ?_; refine zBl (v := .bool _) rfl rfl ?_; exact ⟨_, rfl, ⟨false, rfl, ⟨fun h => (by cases h), fun h => by have h9 := h.2 _ _ hVi; rw [hU] at h9; cases h9; exact absurd rfl (of_decide_eq_false h35)⟩⟩, (hs.arr [2, 3, 4, 5] 6 (by decide)).rngd 0 rfl⟩
     ·
      intro h35; replace h35 := zEs h35; refine zAf ?_; have hii : i = i2 := of_decide_eq_true h35; exact ⟨(zE8 left k18, some (k18, _)), by simp only; omega, ⟨nodup_del hnd k18, same_sub hnd hsub, same_step (es1 := es1) hnd hin hVi (by rw [hU, hii]), hs.arr [2, 3, 4, 5] 6 (by decide)⟩, trivial, by repeat (first | exact Out.mix _ _ _ | refine Out.updo rfl ?_ | refine Out.upd rfl ?_ | refine Out.mixIn rfl ?_)⟩
theorem enEF (args : Array Value) (w : World) : (callFunc 49 args).run Tryz.prog w = .ok (.enter 49 args) w := by kernel_rfl
theorem same_sl (hs : Mem g w (zFm p V :: zFm q U :: L)) : Calls Tryz.prog 22 #[.pointer (some ⟨p, 0, none⟩), .pointer (some ⟨q, 0, none⟩)] w (Ret fun v w' => (∃ b, v = .bool b ∧ (b = true ↔ SameP V U)) ∧ Mem g w' (zFm p V :: zFm q U :: L)) := by
  obtain ⟨ho, m1, es1, hs⟩ := hs.openV; simp only [viewP, List.cons_append, List.nil_append] at hs; replace hs := hs.arr [3, 0, 1, 2] 4 (by decide); obtain ⟨ho2, m2, es2, hs⟩ := Mem.openV hs; simp only [viewP, List.cons_append, List.nil_append] at hs; refine zAo Tryz.func22 rfl rfl ?_
  skip
  refine zA6 (zA1 ?_); refine zA rfl (zA2 (v := .bool _) rfl) ?_; refine zA4 ?_; refine zA6 ?_; refine zAy zBv hs ?_; intro w tr hK; replace hs := tr _ hs; clear tr; refine zA5 0 rfl rfl (fun w hs => zA0 (v := .pointer (some _)) rfl) hK ?_; refine zA5 1 rfl rfl (fun w hs => zA7 rfl) hK ?_; refine zA5 2 rfl rfl (fun w hs => zA3 (o' := 0) uz79 rfl sz77 rfl rfl rfl) hK ?_; refine zA5 3 rfl rfl (fun w hs => zA8 uz77 rfl rfl (hs.cellAt 3 rfl rfl)) hK ?_; refine zA5 4 rfl rfl (fun w hs => zA0 (v := .pointer (some _)) rfl) hK ?_; refine zA5 5 rfl rfl (fun w hs => zA7 rfl) hK ?_; refine zA5 6 rfl rfl (fun w hs => zA3 (o' := 0) uz79 rfl sz77 rfl rfl rfl) hK ?_
  refine zA5 7 rfl rfl (fun w hs => zA8 uz77 rfl rfl (hs.cellAt 0 rfl rfl)) hK ?_; refine zA9 [8] ?_; refine ⟨⟨_, rfl, ?_⟩, trivial⟩; refine zAb rfl enEF (eqF_sl ho ho2 (hs.arr [4, 5, 1, 2, 0, 3] 6 (by decide))) ?_; clear hs; rintro _ w ⟨⟨b, rfl, hb⟩, hs⟩; replace hs := hs.arr [4, 2, 3, 5, 0, 1] 6 (by decide); clear hK; have hK := hs; refine zA4 ⟨hK, ?_⟩; refine zA5 9 rfl rfl (fun w hs => zA2 (v := .bool _) rfl) hK ?_; refine zAp (by kernel_rfl) ?_; clear hK; refine zAg ?_; refine zBl (v := .bool _) rfl rfl ?_; exact ⟨_, rfl, ⟨b, rfl, hb⟩, (Mem.closeV (L := zFm q U :: L) ho ((Mem.closeV (p := q) (V := U) ho2 hs).arr [1, 2, 3, 0] 4 (by decide)))⟩
end Go.Proofs.YtdkgdjnbpjjfmaaGreatDoor
namespace Go.Proofs.YtdkgdjnbpjjfmaaGreatDoor
set_option linter.all false
open Go.RowKit
attribute [local irreducible] zAq
variable {g w : World} {L M : List HP} {ad : Nat → Addr} {p q : Nat} {V U : Vw}

/-- A number below a greater bound. -/
theorem numberL_sl (hs : Mem g w L) (n : Int) (b : Nat) (hb : 0 < b ∧ b < 1000000000) : Calls Tryz.prog 17 #[.int .i64 n, .int .i64 b] w (Ret fun v w' => v = .int .i64 (((n % (b : Int)).toNat : Nat) : Int) ∧ (n % (b : Int)).toNat < b ∧ Mem g w' L) := by
  have h0 : (b : Int) ≠ 0 := by omega
  have h1 := Int.emod_nonneg n h0; have h3 := Int.emod_lt_of_pos n (show (0 : Int) < b by omega); have h4 := Int.tmod_lt_of_pos n (show (0 : Int) < b by omega)
  have h5 : -(b : Int) < n.tmod b := by have h3 := Int.natAbs_tmod n (b : Int); have h4 := Nat.mod_lt n.natAbs (y := (b : Int).natAbs) (by omega); omega
  have he : n.tmod b < 0 → n.tmod b + b = n % (b : Int) := fun h => by
    have e1 : (n.tmod b + (b : Int) * 1) % b = n % b := by
      rw [Int.add_mul_emod_self_left]
      conv => rhs; rw [← Int.tmod_add_mul_tdiv n (b : Int)]
      rw [Int.add_mul_emod_self_left]
    rw [Int.mul_one, Int.emod_eq_of_lt (by omega) (by omega)] at e1; exact e1
  have hp : ¬ n.tmod b < 0 → n.tmod b = n % (b : Int) := fun h => by
    have e1 : n.tmod b % b = n % b := by
      conv => rhs; rw [← Int.tmod_add_mul_tdiv n (b : Int)]
      rw [Int.add_mul_emod_self_left]
    rw [Int.emod_eq_of_lt (by omega) (by omega)] at e1; exact e1
  refine zAo Tryz.func17 rfl rfl ?_
  skip
  refine zA6 (zA1 ?_); refine zA rfl (zA2 (v := .int .i64 _) rfl) ?_; refine zA4 (zA6 (zA1 ?_)); refine zA rfl (zA0 (v := .int .i64 _) rfl) ?_; refine zA rfl (zA0 (v := .int .i64 _) rfl) ?_; refine zA rfl (run_rem rfl rfl (by omega)) ?_; refine zA rfl (zA2 (v := .int .i64 _) rfl) ?_; refine zA4 ?_; refine zA6 ?_; refine zA6 (zA1 ?_); refine zA rfl (zA0 (v := .int .i64 _) rfl) ?_; refine zA rfl (zB7 rfl rfl) ?_; refine zA4 ?_; refine zB8 rfl ?_ ?_
  ·
   intro h10; have g10 := of_decide_eq_true h10; refine zA1 ?_; refine zA rfl (zA0 (v := .int .i64 _) rfl) ?_; refine zA rfl (zA0 (v := .int .i64 _) rfl) ?_; refine zA rfl (zAs rfl rfl (c := n.tmod b + b) rfl (inI (by omega) (by omega))) ?_; refine zA rfl (zA2 (v := .int .i64 _) rfl) ?_; refine zA4 (zA6 (zA1 ?_)); refine zA rfl (zA0 (v := .int .i64 _) rfl) ?_; refine zA rfl (zA2 (v := .int .i64 _) rfl) ?_; refine zA4 ?_; refine zAg ?_; refine zBl (v := .int .i64 _) rfl rfl ?_; exact ⟨_, rfl, by show Value.int .i64 (n.tmod b + b) = _; rw [he g10]; congr 1; omega, by omega, hs⟩
  ·
   intro h10; have g10 := of_decide_eq_false h10; refine zAf ?_; refine zA6 (zA1 ?_); refine zA rfl (zA0 (v := .int .i64 _) rfl) ?_; refine zA rfl (zA2 (v := .int .i64 _) rfl) ?_; refine zA4 ?_; refine zAg ?_; refine zBl (v := .int .i64 _) rfl rfl ?_; exact ⟨_, rfl, by show Value.int .i64 (n.tmod b) = _; rw [hp g10]; congr 1; omega, by omega, hs⟩
/-! ### a byte is turned -/
/-! ### a view's items in order -/
def itsOf (V : Vw) : List Itm := (zEm (zAl V)).map fun k => (zB5 V k).getD ⟨0, Mf.z⟩
theorem sort_mem {V : Vw} {k : Int} (h : k ∈ zEm (zAl V)) : k ∈ zAl V := (List.mergeSort_perm _ _).mem_iff.1 h
theorem itsOf_len (V : Vw) : (itsOf V).length = V.length := by simp [itsOf, sortI_len, zAl]
theorem itsOf_get {V : Vw} {k : Int} (h : k ∈ zEm (zAl V)) : ∃ i, zB5 V k = some i ∧ (zB5 V k).getD ⟨0, Mf.z⟩ = i := by
  obtain ⟨i, hi⟩ := zG1 (sort_mem h); exact ⟨i, hi, by rw [hi]; rfl⟩
theorem itsOf_bytes (V : Vw) : vwB V = zBt (zB4 (itsOf V).length ++ (itsOf V).flatMap itB) := by
  have h : ∀ l : List Int, (∀ k ∈ l, k ∈ zEm (zAl V)) → l.flatMap (itAt V) = (l.map fun k => (zB5 V k).getD ⟨0, Mf.z⟩).flatMap itB := by
    intro l
    induction l with
    | nil => intro _; rfl
    | cons k l ih =>
      intro h; obtain ⟨i, h1, h2⟩ := itsOf_get (h k (List.mem_cons_self ..)); simp only [List.flatMap_cons, List.map_cons, h2, itAt, h1, Option.elim]; rw [← ih fun x hx => h x (List.mem_cons_of_mem _ hx)]
      rfl
  rw [vwB, vwBody, itsOf_len, h _ (fun _ h => h)]
  rfl
theorem itsOf_fine (ho : V.ok) (hu : V.sums) : ∀ i ∈ itsOf V, ItFine i := by
  intro i hi; obtain ⟨k, hk, rfl⟩ := List.mem_map.1 hi; obtain ⟨i, h1, h2⟩ := itsOf_get hk; have h3 := ho.item h1; simp only [h2]; exact ⟨flt0 (mfF_ok _) h3.1, h3.2.2.1, h3.2.2.2.1, hu _ (zDx h1)⟩
theorem itsOf_id (ho : V.ok) {k : Int} (hk : k ∈ zEm (zAl V)) : ((zB5 V k).getD ⟨0, Mf.z⟩).m.id = k := by
  obtain ⟨i, h1, h2⟩ := itsOf_get hk
  rw [h2]; exact (ho.item h1).2.1
theorem itsOf_rise (ho : V.ok) : (itsOf V).Pairwise fun x y => x.m.id < y.m.id := by
  have h1 : (zEm (zAl V)).Pairwise (fun x y => decide (x ≤ y) = true) := List.pairwise_mergeSort (fun a b c h1 h2 => by simp only [decide_eq_true_eq] at *; omega) (fun a b => by simp only [Bool.or_eq_true, decide_eq_true_eq]; omega) _; have h2 : (zEm (zAl V)).Pairwise (fun x y => x ≠ y) := (List.mergeSort_perm _ _).nodup_iff.2 ho.nd; rw [itsOf, List.pairwise_map]
  have h3 : (zEm (zAl V)).Pairwise (fun x y => x < y) := (h1.and h2).imp fun ⟨a, b⟩ => by simp only [decide_eq_true_eq] at a; omega
  refine List.Pairwise.imp_of_mem (fun {x y} hx hy h => ?_) h3; rw [itsOf_id ho hx, itsOf_id ho hy]; exact h
theorem itsOf_keys (ho : V.ok) : vwOf (itsOf V) = (zEm (zAl V)).map fun k => (k, (zB5 V k).getD ⟨0, Mf.z⟩) := by
  rw [vwOf, itsOf, List.map_map]
  refine List.map_congr_left fun k hk => ?_
  simp only [Function.comp, itsOf_id ho hk]
/-- What is read is the same view. -/
theorem itsOf_same (ho : V.ok) : SameP (vwOf (itsOf V)) V := by
  refine ⟨by rw [vwOf, List.length_map, itsOf_len], fun k i h => ?_⟩; have h1 := zDx h; rw [itsOf_keys ho] at h1; obtain ⟨k', hk, e⟩ := List.mem_map.1 h1; simp only [Prod.mk.injEq] at e; obtain ⟨rfl, rfl⟩ := e; obtain ⟨i, h2, h3⟩ := itsOf_get hk
  rw [h2]; rfl
end Go.Proofs.YtdkgdjnbpjjfmaaGreatDoor
namespace Go.Proofs.YtdkgdjnbpjjfmaaGreatDoor
set_option linter.all false
open Go.RowKit

/-! ### views that are alike -/
def EqV (V U : Vw) : Prop := ∀ k, zB5 V k = zB5 U k
theorem EqV.rfl' (V : Vw) : EqV V V := fun _ => rfl
theorem EqV.keys {V U : Vw} (h : EqV V U) (k : Int) : k ∈ zAl V ↔ k ∈ zAl U := by
  have h1 := h k; have h2 := zBe V k; have h3 := zBe U k; rw [h1] at h2; exact Decidable.not_iff_not.1 (h2.symm.trans h3)
theorem EqV.perm {V U : Vw} (h : EqV V U) (hV : V.ok) (hU : U.ok) : (zAl V).Perm (zAl U) := (List.perm_ext_iff_of_nodup hV.nd hU.nd).2 h.keys
theorem EqV.len {V U : Vw} (h : EqV V U) (hV : V.ok) (hU : U.ok) : V.length = U.length := by
  have := (h.perm hV hU).length_eq
  simpa [zAl] using this
theorem EqV.sorted {V U : Vw} (h : EqV V U) (hV : V.ok) (hU : U.ok) : zEm (zAl V) = zEm (zAl U) := by
  have hp : (zEm (zAl V)).Perm (zEm (zAl U)) := (List.mergeSort_perm _ _).trans ((h.perm hV hU).trans (List.mergeSort_perm _ _).symm)
  have hs : ∀ l : List Int, (zEm l).Pairwise (fun x y => x ≤ y) := fun l => (List.pairwise_mergeSort (fun a b c h1 h2 => by simp only [decide_eq_true_eq] at *; omega) (fun a b => by simp only [Bool.or_eq_true, decide_eq_true_eq]; omega) l).imp fun h => by simpa using h
  exact hp.eq_of_pairwise (fun a b _ _ h1 h2 => Int.le_antisymm h1 h2) (hs _) (hs _)
theorem EqV.bytes {V U : Vw} (h : EqV V U) (hV : V.ok) (hU : U.ok) : vwB V = vwB U := by
  have h1 : itAt V = itAt U := by funext k; simp only [itAt, h k]
  rw [vwB, vwB, vwBody, vwBody, h.sorted hV hU, h.len hV hU, h1]
theorem EqV.sums {V U : Vw} (h : EqV V U) (hV : V.ok) (hu : U.sums) : V.sums := fun x hx => hu (x.1, x.2) (zDx ((h x.1).symm.trans (mem_aget hV.nd hx)))
theorem EqV.apply {V U : Vw} (h : EqV V U) (hV : V.ok) (hU : U.ok) (k : Int) (x : Mf) : (V.apply k x).1 = (U.apply k x).1 ∧ EqV (V.apply k x).2 (U.apply k x).2 := by
  have h1 : V.state x.id = U.state x.id := by simp only [Vw.state, h x.id]
  have h2 := h.len hV hU
  have hp : ∀ i, EqV (zCd V x.id i) (zCd U x.id i) := fun i j => by
    by_cases e : j = x.id
    · subst e; rw [zB9, zB9]
    · rw [zB1 _ _ e, zB1 _ _ e]; exact h j
  unfold Vw.apply
  rw [h1, h2, h x.id]
  split
  · exact ⟨rfl, h⟩
  · split
    · exact ⟨rfl, h⟩
    · split
      · exact ⟨rfl, h⟩
      · split
        · split
          · exact ⟨rfl, h⟩
          · exact ⟨rfl, hp _⟩
        · split
          · exact ⟨rfl, hp _⟩
          · exact ⟨rfl, h⟩
theorem EqV.same {V U W : Vw} (h : EqV V W) (h2 : EqV U W) (hV : V.ok) (hU : U.ok) : SameP V U := ⟨(EqV.len (fun k => (h k).trans (h2 k).symm) hV hU), fun k i hi => by rw [h2 k, ← h k]; exact hi⟩
theorem SameP.eqv {V U : Vw} (h : SameP V U) (hV : V.ok) (hU : U.ok) : EqV V U := by
  intro k
  cases hk : zB5 V k with
  | some i => exact (h.2 k i hk).symm
  | none =>
    have hkV : k ∉ zAl V := (zBe _ _).1 hk
    cases hu : zB5 U k with
    | none => rfl
    | some i =>
      have hsub : ∀ j ∈ k :: zAl V, j ∈ zAl U := fun j hj => by
        rcases List.mem_cons.1 hj with rfl | hj
        · exact al_key hu
        · obtain ⟨i, hi⟩ := zG1 hj
          exact al_key (h.2 j i hi)
      have h1 : (k :: zAl V).length ≤ (zAl U).length := (List.nodup_cons.2 ⟨hkV, hV.nd⟩).length_le_of_subset hsub; have h2 := h.1
      simp [zAl] at h1
      omega
theorem itsOf_eqv {V : Vw} (ho : V.ok) (hu : V.sums) : EqV (vwOf (itsOf V)) V := SameP.eqv (itsOf_same ho) (vwOf_ok (by rw [itsOf_len]; exact ho.few) (itsOf_fine ho hu) (itsOf_rise ho)) ho
theorem Vw.ok_sub {V U : Vw} (hV : V.ok) (hn : (zAl U).Nodup) (hs : ∀ k i, zB5 U k = some i → zB5 V k = some i) : U.ok := by
  refine ⟨hn, fun x hx => ?_, ?_⟩
  · exact hV.fine (x.1, x.2) (zDx (hs x.1 x.2 (mem_aget hn hx)))
  · have h1 : (zAl U).length ≤ (zAl V).length := hn.length_le_of_subset fun k hk => by
      obtain ⟨i, hi⟩ := zG1 hk; exact al_key (hs k i hi)
    have := hV.few
    simp [zAl] at h1
    omega

/-! ### entries -/
def frames : Nat → List En → List UInt8
  | _, [] => []
  | q, e :: es => frame (q + 1) e ++ frames (q + 1) es
theorem zF (e : En) : ∀ (es : List En) (q : Nat), frames q (es ++ [e]) = frames q es ++ frame (q + es.length + 1) e
  | [], q => by simp [frames]
  | a :: es, q => by
    simp only [List.cons_append, frames, zF e es (q + 1), List.length_cons, List.append_assoc]; rw [show q + 1 + es.length + 1 = q + (es.length + 1) + 1 by omega]
theorem zDl : ∀ (es : List En) (q : Nat), (∀ e ∈ es, EnOk e) → (frames q es).length ≤ 6021 * es.length
  | [], _, _ => by simp [frames]
  | e :: es, q, h => by
    have h1 := zDl es (q + 1) fun x hx => h x (List.mem_cons_of_mem _ hx)
    have h2 := frame_le (q := q + 1) (h e (List.mem_cons_self ..))
    simp only [frames, List.length_append, List.length_cons]; omega
/-- The entries, one behind the other. -/
def runs : Vw → List En → Option Vw
  | V, [] => some V
  | V, e :: es => if (V.apply e.1 e.2).1 = (0, none) then runs (V.apply e.1 e.2).2 es else none
theorem runs_snoc {e : En} : ∀ {es : List En} {V U : Vw}, runs V es = some U → (U.apply e.1 e.2).1 = (0, none) → runs V (es ++ [e]) = some (U.apply e.1 e.2).2
  | [], V, U, h, h2 => by cases h; simp [runs, h2]
  | a :: es, V, U, h, h2 => by
    simp only [runs] at h; simp only [List.cons_append, runs]
    split at h
    · rename_i h3; rw [if_pos h3]; exact runs_snoc h h2
    · cases h
theorem Vw.apply_ne {V : Vw} {k : Int} {x : Mf} (h : (V.apply k x).1.1 ≠ 0) : (V.apply k x).2 = V := by
  by_cases h0 : (mfF x).1 = 0
  · by_cases h2 : k < 1 ∨ 4 < k
    · rw [Vw.apply_kind h0 h2]
    · cases h3 : nextB (V.state x.id) k with
      | false => rw [Vw.apply_state h0 h2 h3]
      | true =>
        cases hV : zB5 V x.id with
        | none =>
          rw [Vw.apply_new h0 h2 h3 hV] at h ⊢
          split
          · rfl
          · rename_i h4; rw [if_neg h4] at h; exact absurd rfl h
        | some i =>
          rw [Vw.apply_old h0 h2 h3 hV] at h ⊢
          split
          · rename_i h4; rw [if_pos h4] at h; exact absurd rfl h
          · rfl
  · rw [Vw.apply_bad h0]
theorem Vw.apply_two (V : Vw) (k : Int) (x : Mf) : (V.apply k x).1 = (0, none) ∨ (V.apply k x).1.1 ≠ 0 := (V.apply_flt k x).1.imp id fun h e => by rw [e] at h; simp at h
theorem Vw.apply_en {V : Vw} {k : Int} {x : Mf} (h : (V.apply k x).1 = (0, none)) : mfF x = (0, none) ∧ 1 ≤ k ∧ k ≤ 4 := by
  unfold Vw.apply at h
  split at h
  · rename_i h1; exact absurd (by rw [show mfF x = (0, none) from h]) h1
  · rename_i h1
    split at h
    · cases h
    · rename_i h2
      exact ⟨flt0 (mfF_ok x) (by simpa using h1), by omega, by omega⟩
theorem Vw.apply_len (V : Vw) (k : Int) (x : Mf) : (V.apply k x).2.length ≤ V.length + 1 := by
  have h1 : ∀ i, (zCd V x.id i).length ≤ V.length + 1 := fun i => by
    have : ∀ (l : Vw), (zCd l x.id i).length ≤ l.length + 1 := fun l => by
      induction l with
      | nil => simp [zCd]
      | cons a l ih =>
        obtain ⟨b, c⟩ := a; simp only [zCd]
        split
        · simp
        · simp only [List.length_cons]; omega
    exact this V
  unfold Vw.apply
  split
  · exact Nat.le_succ _
  · split
    · exact Nat.le_succ _
    · split
      · exact Nat.le_succ _
      · split
        · split
          · exact Nat.le_succ _
          · exact h1 _
        · split
          · exact h1 _
          · exact Nat.le_succ _
theorem Vw.apply_sums {V : Vw} (h : V.sums) {k : Int} {x : Mf} (hx : ∀ o ∈ x.obs, o.2.2 < 4294967296) : (V.apply k x).2.sums := by
  have h1 : Vw.sums (zCd V x.id ⟨k, x⟩) := fun y hy => by
    have : ∀ (l : Vw), (∀ z ∈ l, ∀ q ∈ z.2.m.obs, q.2.2 < 4294967296) → ∀ y ∈ zCd l x.id (⟨k, x⟩ : Itm), ∀ q ∈ y.2.m.obs, q.2.2 < 4294967296 := fun l => by
      induction l with
      | nil => intro _ y hy; simp [zCd] at hy; subst hy; exact hx
      | cons a l ih =>
        obtain ⟨b, c⟩ := a; intro hl y hy; simp only [zCd] at hy
        split at hy
        · rcases List.mem_cons.1 hy with rfl | hy
          · exact hx
          · exact hl y (List.mem_cons_of_mem _ hy)
        · rcases List.mem_cons.1 hy with rfl | hy
          · exact hl _ (List.mem_cons_self ..)
          · exact ih (fun z hz => hl z (List.mem_cons_of_mem _ hz)) y hy
    exact this V h y hy
  unfold Vw.apply
  split
  · exact h
  · split
    · exact h
    · split
      · exact h
      · split
        · split
          · exact h
          · exact h1
        · split
          · exact h1
          · exact h
end Go.Proofs.YtdkgdjnbpjjfmaaGreatDoor
namespace Go.Proofs.YtdkgdjnbpjjfmaaGreatDoor
set_option linter.all false
open Go.RowKit
attribute [local irreducible] zAq
variable {g w : World} {L M : List HP} {ad : Nat → Addr} {p q : Nat} {V U : Vw}

def zD1 (p : Nat) (V : Vw) : HP := ex fun U : Vw => also (zFm p U) (EqV U V ∧ V.ok)
theorem Mem.openQ (hs : Mem g w (zD1 p V :: L)) : V.ok ∧ ∃ U : Vw, U.ok ∧ EqV U V ∧ Mem g w (zFm p U :: L) := by
  obtain ⟨U, h⟩ := hs.unex; obtain ⟨h1, h2⟩ := h.unalso; exact ⟨h1.2, U, h2.openV.1, h1.1, h2⟩
theorem Mem.closeQ (ho : V.ok) (h : EqV U V) (hs : Mem g w (zFm p U :: L)) : Mem g w (zD1 p V :: L) :=
  Mem.ex (f := fun U : Vw => Go.Proofs.YtdkgdjnbpjjfmaaGreatDoor.also (zFm p U) (EqV U V ∧ V.ok)) U (Mem.also ⟨h, ho⟩ hs)
theorem newq_sl (hs : Mem g w L) : Calls Tryz.prog 11 #[] w (Ret fun v w' => ∃ p, v = .pointer (some ⟨p, 0, none⟩) ∧ Mem g w' (zD1 p [] :: L)) :=
  (newv_sl hs).mono fun _ _ ⟨v, h1, p, h2, h3⟩ => ⟨v, h1, p, h2, Mem.closeQ Vw.ok_nil (EqV.rfl' []) h3⟩
theorem zF0 (hE : ErrV ad g) (hs : Mem g w (zD1 p V :: L)) (k : Int) {x : Mf} {e o : SA} (hm : MfR g L x e o) (hob : x.obs.length ≤ 1000000) : Calls Tryz.prog 14 #[.pointer (some ⟨p, 0, none⟩), .agg (.int .i64 k :: mfL x e o).toArray] w (Ret fun v w' => ∃ eb, v = flV ad (V.apply k x).1 eb ∧ Mem g w' (flC ad (V.apply k x).1 eb :: zD1 p (V.apply k x).2 :: L)) := by
  obtain ⟨ho, U, hu, he, hs⟩ := hs.openQ; refine (apply_sl hE hs k hm hob).mono ?_; rintro r w' ⟨v, rfl, eb, rfl, h⟩; have h1 := he.apply hu ho k x; rw [h1.1] at h ⊢; exact ⟨_, rfl, eb, rfl, (Mem.closeQ (Vw.apply_ok ho k x) h1.2 (h.arr [1, 0] 2 (by decide))).arr [1, 0] 2 (by decide)⟩
theorem bytesq_sl (hE : ErrV ad g) (hs : Mem g w (zD1 p V :: L)) (hV : V.length ≤ 100) (hu : V.sums) : Calls Tryz.prog 53 #[.pointer (some ⟨p, 0, none⟩)] w (Ret fun v w' => ∃ a c, v = .slice a (vwB V).length c ∧ Mem g w' (own (.slice a (vwB V).length c) (zAm (vwB V)) :: zD1 p V :: L)) := by
  obtain ⟨ho, U, hu2, he, hs⟩ := hs.openQ; refine (viewB_sl hE hs (by rw [he.len hu2 ho]; exact hV) (he.sums hu2 hu)).mono ?_; rintro r w' ⟨v, rfl, a, c, rfl, h⟩; rw [he.bytes hu2 ho] at h ⊢; exact ⟨_, rfl, a, c, rfl, (Mem.closeQ ho he (h.arr [1, 0] 2 (by decide))).arr [1, 0] 2 (by decide)⟩
theorem readq_sl (hP : ErrP ad g) (hW : ErrW ad g) (hE : ErrV ad g) (hs : Mem g w L) {a : Option Addr} {n c : Nat} (ho : V.ok) (hu : V.sums) (hV : V.length ≤ 100) (hr : Rd g L (.slice a n c) (zAm (vwB V))) (hn : n = (vwB V).length) (hc : n ≤ c) : Calls Tryz.prog 71 #[.slice a n c] w (Ret fun v w' => ∃ p, v = .tuple #[.pointer (some ⟨p, 0, none⟩), .nilIface] ∧ Mem g w' (zD1 p V :: L)) :=
  (readV_sl hP hW hE hs (itsOf_bytes V) hr hn hc (by rw [itsOf_len]; exact hV) (itsOf_fine ho hu) (itsOf_rise ho)).mono fun _ _ ⟨v, h1, p, h2, h3⟩ => ⟨v, h1, p, h2, Mem.closeQ ho (itsOf_eqv ho hu) h3⟩
theorem sameq_sl (hs : Mem g w (zD1 p V :: zD1 q U :: L)) : Calls Tryz.prog 22 #[.pointer (some ⟨p, 0, none⟩), .pointer (some ⟨q, 0, none⟩)] w (Ret fun v w' => (∃ b, v = .bool b ∧ (b = true ↔ EqV V U)) ∧ Mem g w' (zD1 p V :: zD1 q U :: L)) := by
  obtain ⟨ho, V', hv, he, hs⟩ := hs.openQ; obtain ⟨ho2, U', hu, he2, hs⟩ := (hs.arr [1, 0] 2 (by decide)).openQ; refine (same_sl (hs.arr [1, 0] 2 (by decide))).mono ?_; rintro r w' ⟨v, rfl, ⟨b, rfl, hb⟩, h⟩; have h9 : SameP V' U' ↔ EqV V U := ⟨fun h k => by rw [← he k, ← he2 k]; exact h.eqv hv hu k, fun h => EqV.same (W := U) (fun k => (he k).trans (h k)) he2 hv hu⟩; exact ⟨_, rfl, ⟨b, rfl, hb.trans h9⟩, (Mem.closeQ ho2 he2 ((Mem.closeQ ho he h).arr [1, 0] 2 (by decide))).arr [1, 0] 2 (by decide)⟩
/-! ### a copy -/
structure ClvI (V U : Vw) (es left : List (Int × Value)) : Prop where
  nd : (zAl left).Nodup
  sub : ∀ k v, zB5 left k = some v → zB5 es k = some v
  ndU : (zAl U).Nodup
  done : ∀ k, zB5 left k = none → zB5 U k = zB5 V k
  rest : ∀ k, zB5 left k ≠ none → zB5 U k = none
theorem ClvI.start {es : List (Int × Value)} (ho : V.ok) (hk : zAl es = zAl V) : ClvI V [] es es :=
  ⟨hk ▸ ho.nd, fun _ _ h => h, List.nodup_nil, fun k h => by rw [zBe, hk, ← zBe] at h; exact h.symm, fun _ _ => rfl⟩
theorem ClvI.step {es left : List (Int × Value)} (h : ClvI V U es left) {k : Int} {i : Itm} {v : Value} (hl : zB5 left k = some v) (hV : zB5 V k = some i) : ClvI V (zCd U k i) es (zE8 left k) := by
  refine ⟨nodup_del h.nd k, same_sub h.nd h.sub, aput_nodup h.ndU, fun j hj => ?_, fun j hj => ?_⟩
  · by_cases e : j = k
    · subst e; rw [zB9, hV]
    · rw [zB1 _ _ e]; rw [zCk _ e] at hj; exact h.done j hj
  · by_cases e : j = k
    · subst e; exact absurd (zEv h.nd j) hj
    · rw [zB1 _ _ e]; rw [zCk _ e] at hj; exact h.rest j hj
theorem ClvI.ok {es left : List (Int × Value)} (h : ClvI V U es left) (ho : V.ok) : U.ok := Vw.ok_sub ho h.ndU fun k i hi => by
  by_cases e : zB5 left k = none
  · rw [← h.done k e]; exact hi
  · rw [h.rest k e] at hi; cases hi
theorem ClvI.fin {es : List (Int × Value)} (h : ClvI V U es []) : EqV U V := fun k => h.done k rfl
set_option maxHeartbeats 1000000 in
theorem cloneq_sl (hs : Mem g w (zD1 p V :: L)) : Calls Tryz.prog 16 #[.pointer (some ⟨p, 0, none⟩)] w (Ret fun v w' => ∃ q, v = .pointer (some ⟨q, 0, none⟩) ∧ Mem g w' (zD1 q V :: zD1 p V :: L)) := by
  obtain ⟨ho0, U, ho, he, hs⟩ := hs.openQ; obtain ⟨_, m, es, hs⟩ := hs.openV; simp only [viewP, List.cons_append, List.nil_append] at hs; have hke := hs.famKeys 2 rfl; refine zAo Tryz.func16 rfl rfl ?_
  skip
  refine zA6 (zA1 ?_); refine zA rfl (zA2 (v := .pointer none) rfl) ?_; refine zA4 (zA6 (zA1 ?_)); refine zAb rfl en11 (newv_sl hs) ?_; clear hs; rintro _ w ⟨pn, rfl, hs⟩; refine zA rfl (zA2 (v := .pointer (some _)) rfl) ?_; refine zA4 ?_; refine zA6 ?_; refine zA6 (zA1 ?_); refine zA rfl (zA0 (v := .pointer (some _)) rfl) ?_; refine zA rfl (zA7 rfl) ?_; refine zA rfl (zA3 (o' := 0) uz79 rfl sz77 rfl rfl rfl) ?_; refine zA rfl (zA8 uz77 rfl rfl (hs.cellAt 1 rfl rfl)) ?_; refine lw_rangeM hs rfl 2 rfl uz77 rfl ?_; clear hs; intro r11 w hs
  try simp only [List.set_cons_succ, List.set_cons_zero] at hs
  refine zA4 ?_; refine zAw ?_; refine zBw (X := List (Int × Value) × Option (Int × Value) × Vw) [4, 5, 12, 13, 14, 15, 16, 17, 18, 19, 20, 21, 22, 23, 24, 25, 26, 27] (fun x => []) (fun x w => ClvI U x.2.2 es x.1 ∧ Mem g w (rngC (Value.int .i64) r11 m es x.1 x.2.1 :: cells p [.map (some m)] 79 :: famC itmC es U :: zFm pn x.2.2 :: L)) (fun x => x.1.length) ((es, none, [])) ?_ ?_ ?_
  · exact trivial
  · exact ⟨ClvI.start ho hke, hs.arr [2, 1, 3, 0] 4 (by decide)⟩
  clear hs; rintro x ξ w hI; obtain ⟨left, cur, W⟩ := x; obtain ⟨hJ, hs⟩ := hI; simp only at hJ hs; refine zA6 (zA1 ?_); refine lw_nextM hs rfl 0 rfl zF8.inj rfl ?_ ?_
  ·
   intro hl12; subst hl12; refine zA rfl (zAa (v := .bool _) rfl rfl) ?_; refine zA4 ?_; refine zA6 ?_; refine zAx rfl rfl ?_; refine zBg rfl ?_; refine zA6 (zA1 ?_); refine zA rfl (zA0 (v := .pointer (some _)) rfl) ?_; refine zA rfl (zA2 (v := .pointer (some _)) rfl) ?_; refine zA4 ?_; refine zAg ?_; refine zBl (v := .pointer (some _)) rfl rfl ?_; have h1 := Mem.closeV (p := p) ho ((hs.rngd 0 rfl).arr [1, 0, 2, 3] 4 (by decide)); have h2 := Mem.closeQ ho0 he h1; exact ⟨_, rfl, pn, rfl, Mem.closeQ ho0 (fun k => (hJ.fin k).trans (he k)) (h2.arr [1, 0] 2 (by decide))⟩
  ·
   clear hs; intro k12 v12 w hk12 hs
   try simp only [List.set_cons_succ, List.set_cons_zero] at hs
   have hes := hJ.sub _ _ hk12; obtain ⟨i, hi⟩ := zG1 (hke ▸ al_key hes : k12 ∈ zAl U); obtain ⟨e, o, hee, _⟩ := hs.itmAt 2 rfl hi; obtain rfl := Option.some.inj (hes.symm.trans hee); have hit := ho.item hi; have hdl := al_del hk12; refine zA rfl (zAa (v := .bool _) rfl rfl) ?_; refine zA4 ?_; refine zA6 ?_; refine zBb rfl rfl ?_; refine zAf ?_; refine zAw ?_; refine zA6 (zA1 ?_); refine zA rfl (run_entryM hs 0 rfl rfl) ?_; refine zA rfl (zAa (v := .int .i64 _) rfl rfl) ?_; refine zA rfl (zAa (v := .agg _) rfl rfl) ?_; refine zBd hs rfl ze85 ?_; clear hs; intro b5 w hs
   try simp only [List.set_cons_succ, List.set_cons_zero] at hs
   refine zA rfl (zA2 (v := .int .i64 _) rfl) ?_; refine zAn hs 0 rfl rfl rfl sz85 rfl rfl ?_; clear hs; intro w hs
   try simp only [List.set_cons_succ, List.set_cons_zero] at hs
   refine zA4 ?_; obtain ⟨hoW, m2, es2, hs⟩ := (hs.arr [4, 0, 1, 2, 3] 5 (by decide)).openV; simp only [viewP, List.cons_append, List.nil_append] at hs; obtain ⟨e', o', hee', hm⟩ := hs.itmAt 6 rfl hi; obtain ⟨rfl, rfl⟩ := itm_inj (Option.some.inj (hee.symm.trans hee')); refine zAy zBv (hs.drop 1) ?_; intro w tr hK; replace hs := tr _ hs; clear tr; refine zA5 0 rfl rfl (fun w hs => zA0 (v := .pointer (some _)) rfl) hK ?_; refine zA5 1 rfl rfl (fun w hs => zA7 rfl) hK ?_; refine zA5 2 rfl rfl (fun w hs => zA3 (o' := 0) uz79 rfl sz77 rfl rfl rfl) hK ?_; refine zA5 3 rfl rfl (fun w hs => zA8 uz77 rfl rfl (hs.cellAt 0 rfl rfl)) hK ?_
   refine zA5 4 rfl rfl (fun w hs => zA0 (v := .int .i64 _) rfl) hK ?_; refine zA5 5 rfl rfl (fun w hs => zA3 (o' := 0) uz85 rfl sz3 rfl rfl rfl) hK ?_; refine zA5 6 rfl rfl (fun w hs => zA8 uz3 rfl rfl (hs.cellAt 2 rfl rfl)) hK ?_; refine zA5 7 rfl rfl (fun w hs => zA3 (o' := 1) uz85 rfl zDf rfl rfl rfl) hK ?_; refine zA5 8 rfl rfl (fun w hs => zCw hs 2 (mfL i.m e o) rfl zBx zDf rfl rfl) hK ?_; refine zA9 [9] ?_; refine ⟨⟨_, rfl, ?_⟩, trivial⟩; refine zAb rfl en43 (cloneM_sl hs hm (by omega) (by omega)) ?_; clear hs; rintro _ w ⟨s1, s2, rfl, hs⟩; clear hK; have hK := hs.tail.tail.drop 1; refine zA4 ⟨hK, ?_⟩
   refine @aw_take _ _ _ _ _ _ _ _ _ _ _ _ _ _ 10 _ rfl (by kernel_rfl) (by kernel_rfl) (by kernel_rfl) rfl (fun w hs => zG9 (k := i.st) (m := i.m) (e := s1) (o := s2) uz85 ze85 pl85 rfl rfl) hK ?_; refine zA9 [11] ?_; refine ⟨⟨_, rfl, ?_⟩, trivial⟩; refine zE0 (v := .agg _) hs 3 rfl zF8 uz77 uz3 rfl rfl rfl ?_; clear hs; intro w hs
   try simp only [List.set_cons_succ, List.set_cons_zero] at hs
   clear hK; have hK := hs.tail.tail.drop 1; refine zA4 ⟨hK, ?_⟩; refine zAp (by kernel_rfl) ?_; clear hK; have h1 := Mem.closeItm (i := i) (e := s1) (o := s2) hs; have h2 := Mem.famPut (R := itmC) (k := k12) h1 2 rfl (fun _ h => False.elim h); have hst := hJ.step hk12 hi; exact ⟨(zE8 left k12, some (k12, itmV i e o), zCd W k12 i), by simp only; omega, ⟨hst, (Mem.closeV (p := pn) (hst.ok ho) h2).arr [2, 3, 4, 0] 5 (by decide)⟩, trivial, by repeat (first | exact Out.mix _ _ _ | refine Out.updo rfl ?_ | refine Out.upd rfl ?_ | refine Out.mixIn rfl ?_)⟩
end Go.Proofs.YtdkgdjnbpjjfmaaGreatDoor
namespace Go.Proofs.YtdkgdjnbpjjfmaaGreatDoor
set_option linter.all false
open Go.RowKit
attribute [local irreducible] zAq eV
variable {g w : World} {L M : List HP} {ad : Nat → Addr} {b rest : List UInt8} {a : Option Addr} {n c : Nat}

/-- What entry.Read answers of bytes: none, or an entry, its number and how many bytes it has. -/
def ErdR (g : World) (ad : Nat → Addr) (L : List HP) : Option (Nat × En × Nat) → Value → World → Prop
  | none => fun v w' => ∃ f eb, (f.2 = none ∨ f.1 ≠ 0) ∧ f.1 ≠ 0 ∧ v = .tuple #[.int .i64 0, .agg (.int .i64 0 :: mfL Mf.z (none, 0) (none, 0)).toArray, .int .i64 0, flV ad f eb] ∧ Mem g w' (flC ad f eb :: L)
  | some (q, e, z) => fun v w' => ∃ s1 s2 : SA, v = .tuple #[.int .i64 q, .agg (.int .i64 e.1 :: mfL e.2 s1 s2).toArray, .int .i64 z, .nilIface] ∧ Mem g w' (mfP e.2 s1 s2 ++ L)
/-- entry.Read answers that of these bytes. -/
structure ErdC (b : List UInt8) (r : Option (Nat × En × Nat)) : Prop where
  len : b.length ≤ 1000000
  fine : ∀ q e z, r = some (q, e, z) → EnOk e ∧ 1 ≤ z ∧ z ≤ b.length ∧ q < 9223372036854775808
  calls : ∀ {g w : World} {L : List HP} {ad : Nat → Addr} {a : Option Addr} {n c : Nat}, ErrP ad g → ErrW ad g → ErrV ad g → Mem g w L → Rd g L (.slice a n c) (zAm b) → n = b.length → n ≤ c → Calls Tryz.prog 77 #[.slice a n c] w (Ret (ErdR g ad L r))
theorem zFt (hs : Mem g w L) (f : Flt) (eb : Nat) : Calls Tryz.prog 116 #[flV ad f eb] w (Ret fun r w' => r = .tuple #[.int .i64 0, .agg (.int .i64 0 :: mfL Mf.z (none, 0) (none, 0)).toArray, .int .i64 0, flV ad f eb] ∧ Mem g w' L) := by
  refine zAo Tryz.func116 rfl rfl ?_
  skip
  refine zA6 (zA1 ?_); refine zA rfl (zA2 (v := .int .i64 _) rfl) ?_; refine zBd hs rfl ze41 ?_; clear hs; intro b3 w hs
  try simp only [List.set_cons_succ, List.set_cons_zero] at hs
  refine zA rfl (zA2 (v := .int .i64 _) rfl) ?_; refine zA rfl (zA2 (v := .nilIface) rfl) ?_; refine zA4 (zA6 (zA1 ?_)); refine zA rfl (zC3 (cs := [.int .i64 0, .int .i64 0, .int .i64 0, .int .i64 0, .int .i64 0, .slice none 0 0, .slice none 0 0]) zEa ze41 pl41 rfl) ?_; refine zA rfl (zA0 (v := flV ad _ _) rfl) ?_; refine zA rfl (zA2 (v := .int .i64 _) rfl) ?_; refine zAn hs 0 rfl rfl rfl zEq rfl rfl ?_; clear hs; intro w hs
  try simp only [List.set_cons_succ, List.set_cons_zero] at hs
  refine zA rfl (zA2 (v := .int .i64 _) rfl) ?_; refine zA rfl (zA2 (v := flV ad _ _) rfl) ?_; refine zA4 ?_; refine zAg ?_; refine zFd [(.tmp 2, .int .i64 _), (.cell 3 41, .agg _), (.tmp 4, .int .i64 _), (.tmp 5, flV ad _ _)] rfl ⟨rfl, ⟨_, rfl, zBq hs 0 rfl zEa zEq⟩, rfl, rfl, trivial⟩ ?_; exact ⟨_, rfl, rfl, hs.tail⟩
set_option maxHeartbeats 1000000 in
theorem enRead_sl (hP : ErrP ad g) (hW : ErrW ad g) (hE : ErrV ad g) (hs : Mem g w L) {k : Int} {x : Mf} (hk : EnOk (k, x)) {q : Nat} (hq : q < 9223372036854775808) (hb : b = frame q (k, x) ++ rest) (hlen : b.length ≤ 1000000) (hr : Rd g L (.slice a n c) (zAm b)) (hn : n = b.length) (hc : n ≤ c) :
    Calls Tryz.prog 77 #[.slice a n c] w (Ret (ErdR g ad L (some (q, (k, x), (frame q (k, x)).length)))) := by
  subst hn; obtain ⟨h0, hk1, hk2, hsu⟩ := hk; simp only at h0 hk1 hk2 hsu; have hml : (mfB x).length = (mfBody x).length + 4 := zC1 _; have hmb := zEx (mf_fine (x := x) (by rw [h0])); have h8 := zCv 8 q
  have hst : (UInt8.ofNat k.toNat).toNat = k.toNat := by rw [UInt8.toNat_ofNat']; omega
  obtain ⟨F, hF⟩ : ∃ F, F = zBt (zFr q (k, x)) := ⟨_, rfl⟩
  have hFl : F.length = (mfB x).length + 13 := by rw [hF, zC1, zG8]
  have hil : (zFr q (k, x)).length = (mfB x).length + 9 := zG8 _ _
  have hfl : (frame q (k, x)).length = 4 + F.length := by rw [frame_len, hFl]; simp only; omega
  have hb2 : b = leR 4 F.length ++ (F ++ rest) := by rw [hb, frame, ← hF, List.append_assoc]
  have hbl : b.length = 4 + F.length + rest.length := by rw [hb2]; simp [zCv]; omega
  have ht4 : (b.take 4).drop 0 = leR 4 F.length := by rw [hb2, List.drop_zero, List.take_left' (zCv 4 _)]
  have htF : (b.take (4 + F.length)).drop 4 = F := by
    rw [List.drop_take, hb2, List.drop_left' (zCv 4 _), show 4 + F.length - 4 = F.length by omega, List.take_left]
  have hv4 : valL (leR 4 F.length) = F.length := valL_le 4 (by omega); have hv8 : valL (leR 8 q) = q := valL_le 8 (by omega)
  have hop : openL F = (0, zFr q (k, x)) := by rw [hF]; exact open_seal _
  have hx8 : (zFr q (k, x))[8]? = some (UInt8.ofNat k.toNat) := by rw [zFr, List.getElem?_append_right (by omega), h8]; rfl
  have ht9 : ((zFr q (k, x)).take (zFr q (k, x)).length).drop 9 = mfB x := by rw [List.take_length, zFr, ← List.singleton_append, ← List.append_assoc, List.drop_left' (by simp [h8])]
  refine zAo Tryz.func77 rfl rfl ?_
  skip
  refine zA6 (zA1 ?_); refine zA rfl (zA2 (v := .int .i64 _) rfl) ?_; refine zBd hs rfl ze41 ?_; clear hs; intro b3 w hs
  try simp only [List.set_cons_succ, List.set_cons_zero] at hs
  refine zA rfl (zA2 (v := .int .i64 _) rfl) ?_; refine zA rfl (zA2 (v := .nilIface) rfl) ?_; refine zA4 (zA6 (zA1 ?_)); refine zA rfl (zA2 (v := .func _ _ _) rfl) ?_; refine zA4 ?_; refine zA6 ?_; refine zA6 (zA1 ?_); refine zA rfl (zA0 (v := .slice _ _ _) rfl) ?_; refine zA rfl (zB2 zC0 rfl) ?_; refine zA rfl (zB7 rfl rfl) ?_; refine zA4 ?_; refine zAx rfl (decide_eq_false (by omega)) ?_; refine zAf ?_; refine zA6 (zA1 ?_); refine zA rfl (zA0 (v := .slice _ _ _) rfl) ?_; refine zA rfl (zFa zC0 sz5 rfl rfl (hi := 4) rfl (by omega)) ?_; refine zAb rfl en68 (zFv ad hs (b := (b.take 4).drop 0) (hr.cons.subB (by omega) (by omega)) (by simp; omega) (by simp; omega)) ?_; clear hs
  rintro _ w ⟨rb, rfl, hs⟩; rw [ht4] at hs; refine zAb rfl en111 (fixN_sl hW hs (l := leR 4 F.length) (rest := []) (n := 4) (by rw [zCv]; decide) (by simp) (zCv 4 _).symm (by decide)) ?_; clear hs; rintro _ w ⟨rfl, hs⟩; rw [hv4]; refine zA rfl (zA2 (v := .int .u64 _) rfl) ?_; refine zA4 ?_; refine zA6 ?_; refine zA6 (zA1 ?_); refine zA rfl (zA0 (v := .int .u64 _) rfl) ?_; refine zA rfl (zBi rfl rfl) ?_; refine zA4 ?_; refine zAx rfl (decide_eq_false (by omega)) ?_; refine zAf ?_; refine zA6 ?_; refine zA6 (zA1 ?_); refine zA rfl (zA0 (v := .slice _ _ _) rfl) ?_; refine zA rfl (zB2 zC0 rfl) ?_
  refine zA rfl (zCg rfl rfl (c := ((b.length - 4 : Nat) : Int)) (by omega) (inI (by omega) (by omega))) ?_; refine zA rfl (zAh uz3 zBj rfl (c := ((b.length - 4 : Nat) : Int)) (by rw [zB]; omega)) ?_; refine zA rfl (zA0 (v := .int .u64 _) rfl) ?_; refine zA rfl (zB7 rfl rfl) ?_; refine zA4 ?_; refine zAx rfl (decide_eq_false (by omega)) ?_; refine zAf ?_; refine zA6 (zA1 ?_); refine zA rfl (zA0 (v := .slice _ _ _) rfl) ?_; refine zA rfl (zA0 (v := .int .u64 _) rfl) ?_; refine zA rfl (zAh zBj uz3 rfl (c := ((F.length : Nat) : Int)) (zCp.wrap ⟨by omega, by omega⟩)) ?_; refine zA rfl (zAs rfl rfl (c := ((4 + F.length : Nat) : Int)) (by omega) (inI (by omega) (by omega))) ?_
  refine zA rfl (zF1 zC0 sz5 rfl rfl rfl (lo := 4) (hi := 4 + F.length) rfl rfl (by omega) (by omega)) ?_; refine zAb rfl en108 (copen_sl (k := 0) (b := zFr q (k, x)) hP hs (l := (b.take (4 + F.length)).drop 4) (hr.cons.cons.subB (by omega) (by omega)) (by rw [htF]; omega) (by omega) (by rw [htF]; omega) (by rw [htF]; exact hop)) ?_; clear hs; rintro _ w ⟨a54, c54, rfl, hs⟩; rw [zB6]; refine zA rfl (zA0 (v := .tuple _) rfl) ?_; refine zA rfl (zAa (v := .slice _ _ _) rfl rfl) ?_; refine zA rfl (zAa (v := .nilIface) rfl rfl) ?_; refine zA rfl (zA2 (v := .slice _ _ _) rfl) ?_; refine zA rfl (zA2 (v := .nilIface) rfl) ?_; refine zA4 ?_; refine zA6 ?_; refine zA6 (zA1 ?_)
  refine zA rfl (zA0 (v := .nilIface) rfl) ?_; refine zA rfl (zBf rfl) ?_; refine zA4 ?_; refine zAx rfl (rfl) ?_; refine zAf ?_; refine zA6 ?_; refine zA6 (zA1 ?_); refine zA rfl (zA0 (v := .slice _ _ _) rfl) ?_; refine zA rfl (zB2 zC0 rfl) ?_; refine zA rfl (zB7 rfl rfl) ?_; refine zA4 ?_; refine zAx rfl (decide_eq_false (by omega)) ?_; refine zAf ?_; refine zA6 (zA1 ?_); refine zA rfl (zA0 (v := .slice _ _ _) rfl) ?_; refine zAb rfl en68 (zFv ad hs (b := zFr q (k, x)) (hs.rdOwn 0 rfl) rfl (by omega)) ?_; clear hs; rintro _ w ⟨rb2, rfl, hs⟩; refine zAb rfl en111 (fixN_sl hW hs (l := leR 8 q) (rest := UInt8.ofNat k.toNat :: mfB x) (n := 8) (by omega) (by rfl) (zCv 8 _).symm (by decide)) ?_
  clear hs; rintro _ w ⟨rfl, hs⟩; rw [hv8]; refine zA rfl (zAh zBj uz2 rfl (c := ((q : Nat) : Int)) (zCp.wrap ⟨by omega, by omega⟩)) ?_; refine zA rfl (zA2 (v := .int .i64 _) rfl) ?_; refine zA4 ?_; refine zA6 ?_; obtain ⟨br, or_, rfl, _⟩ := hs.ownCells 1 rfl (by rw [zAu]; omega); refine zA1 ?_; refine zA rfl (zA0 (v := .slice _ _ _) rfl) ?_; refine zA rfl (zBk zC0 sz5 rfl rfl (i := 8) rfl (by omega) rfl) ?_; refine zA rfl (zA8 uz5 rfl rfl (hs.ownAt 1 rfl (zE2 hx8))) ?_; refine zA rfl (zAh uz5 uz3 rfl (c := k) (by rw [hst, zCp.wrap ⟨by omega, by omega⟩]; omega)) ?_
  refine zA rfl (zC3 (cs := [.int .i64 k, .int .i64 0, .int .i64 0, .int .i64 0, .int .i64 0, .slice none 0 0, .slice none 0 0]) zEa ze41 pl41 rfl) ?_; refine zBd hs rfl ze41 ?_; clear hs; intro b11 w hs
  try simp only [List.set_cons_succ, List.set_cons_zero] at hs
  refine zAn hs 0 rfl rfl rfl zEq rfl rfl ?_; clear hs; intro w hs
  try simp only [List.set_cons_succ, List.set_cons_zero] at hs
  refine zA4 ?_; refine zA6 ?_; refine zA6 (zA1 ?_); refine zA rfl (zA0 (v := .int .i64 _) rfl) ?_; refine zA rfl (zB7 rfl rfl) ?_; refine zA4 ?_; refine zAx rfl (decide_eq_false (by omega)) ?_; refine zAf ?_; refine zA6 ?_; refine zA6 (zA1 ?_); refine zA rfl (zA3 (o' := 0) zEa rfl sz3 rfl rfl rfl) ?_; refine zA rfl (zA8 uz3 rfl rfl (hs.cellAt 0 rfl rfl)) ?_; refine zAb rfl en79 (known_sl hs k) ?_; clear hs; rintro _ w ⟨rfl, hs⟩; refine zA rfl (zC4 rfl) ?_; refine zA4 ?_; refine zAx rfl (zC8 ((by rw [decide_eq_true hk1, decide_eq_true hk2]; rfl))) ?_; refine zAf ?_; refine zA6 ?_; refine zA6 (zA1 ?_); refine zA rfl (zA0 (v := .slice _ _ _) rfl) ?_
  refine zA rfl (zC2 zC0 sz5 rfl rfl (lo := 9) rfl (by omega)) ?_; refine zAb rfl en113 (maniR_sl hP hW hE hs (m := x) (by rw [← ht9]; exact (hs.rdOwn 2 rfl).subB (by omega) (Nat.le_refl _)) (by omega) (by have := (hs.ownForm 2 rfl).2.1; omega) h0 hsu) ?_; clear hs; rintro _ w ⟨s1, s2, rfl, hs⟩; simp only [mfP, List.cons_append, List.nil_append] at hs; refine zA rfl (zA0 (v := .tuple _) rfl) ?_; refine zA rfl (zAa (v := .agg _) rfl rfl) ?_; refine zA rfl (zAa (v := .nilIface) rfl rfl) ?_; refine zA rfl (zA3 (o' := 1) zEa rfl zDf rfl rfl rfl) ?_; refine lw_storeMid hs 2 ((.int .i64 k :: mfL x s1 s2)) rfl rfl rfl zDf rfl rfl rfl ?_; clear hs; intro w hs
  try simp only [List.set_cons_succ, List.set_cons_zero] at hs
  refine zA rfl (zA2 (v := .nilIface) rfl) ?_; refine zA4 (zA6 (zA1 ?_)); refine zA rfl (zA0 (v := .nilIface) rfl) ?_; refine zA rfl (zBf rfl) ?_; refine zA4 ?_; refine zAx rfl (rfl) ?_; refine zAf ?_; refine zA6 ?_; refine zAy zBv (hs.arr [0, 1, 2, 3, 4, 5] 7 (by decide)) ?_; intro w tr hK; replace hs := tr _ hs; clear tr; refine zA5 0 rfl rfl (fun w hs => zA0 (v := .int .i64 _) rfl) hK ?_; refine zA5 1 rfl rfl (fun w hs => zBc hs 2 rfl zEa zEq rfl) hK ?_; refine zA5 2 rfl rfl (fun w hs => zA0 (v := .int .u64 _) rfl) hK ?_; refine zA5 3 rfl rfl (fun w hs => zAh zBj uz3 rfl (c := ((F.length : Nat) : Int)) (zCp.wrap ⟨by omega, by omega⟩)) hK ?_
  refine zA5 4 rfl rfl (fun w hs => zAs rfl rfl (c := ((4 + F.length : Nat) : Int)) (by omega) (inI (by omega) (by omega))) hK ?_; refine zA5 5 rfl rfl (fun w hs => zA2 (v := .int .i64 _) rfl) hK ?_; refine zA9 [6] ?_; refine ⟨⟨_, rfl, ?_⟩, trivial⟩; refine zAn hs 6 rfl rfl rfl zEq rfl rfl ?_; clear hs; intro w hs
  try simp only [List.set_cons_succ, List.set_cons_zero] at hs
  clear hK; have hK := hs.arr [0, 1, 2, 3, 4, 5] 7 (by decide); refine zA4 ⟨hK, ?_⟩; refine zA5 7 rfl rfl (fun w hs => zA2 (v := .int .i64 _) rfl) hK ?_; refine zA5 8 rfl rfl (fun w hs => zA2 (v := .nilIface) rfl) hK ?_; refine zAp (by kernel_rfl) ?_; clear hK; refine zAg ?_; refine zFd [(.tmp 2, .int .i64 _), (.cell 3 41, .agg _), (.tmp 4, .int .i64 _), (.tmp 5, .nilIface)] rfl ⟨rfl, ⟨_, rfl, zBq hs 6 rfl zEa zEq⟩, rfl, rfl, trivial⟩ ?_; rw [hfl]; exact ⟨_, rfl, s1, s2, rfl, hs.arr [0, 1] 7 (by decide)⟩
/-- Bytes that break off are no entry. -/
theorem enShort_sl (hP : ErrP ad g) (hs : Mem g w L) (h4 : b.length < 4) (hr : Rd g L (.slice a n c) (zAm b)) (hn : n = b.length) : Calls Tryz.prog 77 #[.slice a n c] w (Ret (ErdR g ad L none)) := by
  subst hn; refine zAo Tryz.func77 rfl rfl ?_
  skip
  refine zA6 (zA1 ?_); refine zA rfl (zA2 (v := .int .i64 _) rfl) ?_; refine zBd hs rfl ze41 ?_; clear hs; intro b3 w hs
  try simp only [List.set_cons_succ, List.set_cons_zero] at hs
  refine zA rfl (zA2 (v := .int .i64 _) rfl) ?_; refine zA rfl (zA2 (v := .nilIface) rfl) ?_; refine zA4 (zA6 (zA1 ?_)); refine zA rfl (zA2 (v := .func _ _ _) rfl) ?_; refine zA4 ?_; refine zA6 ?_; refine zA6 (zA1 ?_); refine zA rfl (zA0 (v := .slice _ _ _) rfl) ?_; refine zA rfl (zB2 zC0 rfl) ?_; refine zA rfl (zB7 rfl rfl) ?_; refine zA4 ?_; refine zBb rfl (decide_eq_true (by omega)) ?_; refine zA6 (zA1 ?_); refine zA rfl (zA0 (v := .func _ _ _) rfl) ?_; refine zA rfl (zA8 zCq rfl rfl (hP.cellW hs 101 (by decide) rfl)) ?_; refine zD2 rfl (cap := #[]) en116 rfl (zFt (ad := ad) hs (101, none) 0) ?_; clear hs; rintro _ w ⟨rfl, hs⟩; refine zA rfl (zAa (v := .int .i64 _) rfl rfl) ?_
  refine zA rfl (zAa (v := .agg _) rfl rfl) ?_; refine zA rfl (zAa (v := .int .i64 _) rfl rfl) ?_; refine zA rfl (zAa (v := zAq ad _) rfl rfl) ?_; refine zA rfl (zA2 (v := .int .i64 _) rfl) ?_; refine zAn hs 0 rfl rfl rfl zEq rfl rfl ?_; clear hs; intro w hs
  try simp only [List.set_cons_succ, List.set_cons_zero] at hs
  refine zA rfl (zA2 (v := .int .i64 _) rfl) ?_; refine zA rfl (zA2 (v := zAq ad _) rfl) ?_; refine zA4 ?_; refine zAg ?_; refine zFd [(.tmp 2, .int .i64 _), (.cell 3 41, .agg _), (.tmp 4, .int .i64 _), (.tmp 5, zAq ad _)] rfl ⟨rfl, ⟨_, rfl, zBq hs 0 rfl zEa zEq⟩, rfl, rfl, trivial⟩ ?_; exact ⟨_, rfl, (101, none), 0, .inl rfl, by decide, rfl, hs.tail.addE (zEd _)⟩
theorem enCut_sl (hP : ErrP ad g) (hW : ErrW ad g) (hs : Mem g w L) {m : Nat} {t : List UInt8} (hb : b = leR 4 m ++ t) (hm : m ≤ 65536) (ht : t.length < m) (hr : Rd g L (.slice a n c) (zAm b)) (hn : n = b.length) (hc : n ≤ c) : Calls Tryz.prog 77 #[.slice a n c] w (Ret (ErdR g ad L none)) := by
  subst hn
  have hbl : b.length = 4 + t.length := by rw [hb]; simp [zCv]
  have ht4 : (b.take 4).drop 0 = leR 4 m := by rw [hb, List.drop_zero, List.take_left' (zCv 4 _)]
  have hv4 : valL (leR 4 m) = m := valL_le 4 (by omega); refine zAo Tryz.func77 rfl rfl ?_
  skip
  refine zA6 (zA1 ?_); refine zA rfl (zA2 (v := .int .i64 _) rfl) ?_; refine zBd hs rfl ze41 ?_; clear hs; intro b3 w hs
  try simp only [List.set_cons_succ, List.set_cons_zero] at hs
  refine zA rfl (zA2 (v := .int .i64 _) rfl) ?_; refine zA rfl (zA2 (v := .nilIface) rfl) ?_; refine zA4 (zA6 (zA1 ?_)); refine zA rfl (zA2 (v := .func _ _ _) rfl) ?_; refine zA4 ?_; refine zA6 ?_; refine zA6 (zA1 ?_); refine zA rfl (zA0 (v := .slice _ _ _) rfl) ?_; refine zA rfl (zB2 zC0 rfl) ?_; refine zA rfl (zB7 rfl rfl) ?_; refine zA4 ?_; refine zAx rfl (decide_eq_false (by omega)) ?_; refine zAf ?_; refine zA6 (zA1 ?_); refine zA rfl (zA0 (v := .slice _ _ _) rfl) ?_; refine zA rfl (zFa zC0 sz5 rfl rfl (hi := 4) rfl (by omega)) ?_; refine zAb rfl en68 (zFv ad hs (b := (b.take 4).drop 0) (hr.cons.subB (by omega) (by omega)) (by simp; omega) (by simp; omega)) ?_; clear hs
  rintro _ w ⟨rb, rfl, hs⟩; rw [ht4] at hs; refine zAb rfl en111 (fixN_sl hW hs (l := leR 4 m) (rest := []) (n := 4) (by rw [zCv]; decide) (by simp) (zCv 4 _).symm (by decide)) ?_; clear hs; rintro _ w ⟨rfl, hs⟩; rw [hv4]; refine zA rfl (zA2 (v := .int .u64 _) rfl) ?_; refine zA4 ?_; refine zA6 ?_; refine zA6 (zA1 ?_); refine zA rfl (zA0 (v := .int .u64 _) rfl) ?_; refine zA rfl (zBi rfl rfl) ?_; refine zA4 ?_; refine zAx rfl (decide_eq_false (by omega)) ?_; refine zAf ?_; refine zA6 ?_; refine zA6 (zA1 ?_); refine zA rfl (zA0 (v := .slice _ _ _) rfl) ?_; refine zA rfl (zB2 zC0 rfl) ?_; refine zA rfl (zCg rfl rfl (c := ((b.length - 4 : Nat) : Int)) (by omega) (inI (by omega) (by omega))) ?_
  refine zA rfl (zAh uz3 zBj rfl (c := ((b.length - 4 : Nat) : Int)) (by rw [zB]; omega)) ?_; refine zA rfl (zA0 (v := .int .u64 _) rfl) ?_; refine zA rfl (zB7 rfl rfl) ?_; refine zA4 ?_; refine zBb rfl (decide_eq_true (by omega)) ?_; refine zA6 (zA1 ?_); refine zA rfl (zA0 (v := .func _ _ _) rfl) ?_; refine zA rfl (zA8 zCq rfl rfl (hP.cellW hs 101 (by decide) rfl)) ?_; refine zD2 rfl (cap := #[]) en116 rfl (zFt (ad := ad) hs (101, none) 0) ?_; clear hs; rintro _ w ⟨rfl, hs⟩; refine zA rfl (zAa (v := .int .i64 _) rfl rfl) ?_; refine zA rfl (zAa (v := .agg _) rfl rfl) ?_; refine zA rfl (zAa (v := .int .i64 _) rfl rfl) ?_; refine zA rfl (zAa (v := zAq ad _) rfl rfl) ?_
  refine zA rfl (zA2 (v := .int .i64 _) rfl) ?_; refine zAn hs 1 rfl rfl rfl zEq rfl rfl ?_; clear hs; intro w hs
  try simp only [List.set_cons_succ, List.set_cons_zero] at hs
  refine zA rfl (zA2 (v := .int .i64 _) rfl) ?_; refine zA rfl (zA2 (v := zAq ad _) rfl) ?_; refine zA4 ?_; refine zAg ?_; refine zFd [(.tmp 2, .int .i64 _), (.cell 3 41, .agg _), (.tmp 4, .int .i64 _), (.tmp 5, zAq ad _)] rfl ⟨rfl, ⟨_, rfl, zBq hs 1 rfl zEa zEq⟩, rfl, rfl, trivial⟩ ?_; exact ⟨_, rfl, (101, none), 0, .inl rfl, by decide, rfl, (hs.tail.tail).addE (zEd _)⟩
theorem erd_frame {q : Nat} {e : En} (hk : EnOk e) (hq : q < 9223372036854775808) (hlen : (frame q e ++ rest).length ≤ 1000000) : ErdC (frame q e ++ rest) (some (q, e, (frame q e).length)) := by
  refine ⟨hlen, fun q' e' z h => ?_, fun hP hW hE hs hr hn hc => enRead_sl hP hW hE hs hk hq rfl hlen hr hn hc⟩
  cases h
  exact ⟨hk, by rw [frame_len]; omega, by simp, hq⟩
/-- Of a frame that breaks off nothing is read. -/
theorem erd_cut {q : Nat} {e : En} (hk : EnOk e) {j : Nat} (hj : j < (frame q e).length) : ErdC ((frame q e).take j) none := by
  have hfl := frame_le (q := q) hk; refine ⟨by rw [List.length_take]; omega, fun q' e' z h => (by cases h), fun hP hW hE hs hr hn hc => ?_⟩
  by_cases h4 : j < 4
  · exact enShort_sl hP hs (by rw [List.length_take]; omega) hr hn
  · have hF : (zBt (zFr q e)).length = (frame q e).length - 4 := by rw [frame, List.length_append, zCv]; omega
    refine enCut_sl hP hW hs (m := (zBt (zFr q e)).length) (t := (zBt (zFr q e)).take (j - 4)) ?_ (by omega) (by rw [List.length_take]; omega) hr hn hc; rw [frame, List.take_append, zCv, List.take_of_length_le (by rw [zCv]; omega)]
/-! ### what reading goes on to -/
inductive Ent : Vw → Nat → List UInt8 → Vw → Nat → Nat → Nat → Prop
  | none {V : Vw} {q : Nat} {b : List UInt8} (h : b = [] ∨ ErdC b .none) : Ent V q b V q 0 0
  | bad {V : Vw} {q s z : Nat} {e : En} {b : List UInt8} (h : ErdC b (some (s, e, z))) (hb : s ≠ q + 1 ∨ (V.apply e.1 e.2).1.1 ≠ 0) : Ent V q b V q 0 0
  | step {V U : Vw} {q r z c n : Nat} {e : En} {b : List UInt8} (h : ErdC b (some (q + 1, e, z))) (ha : (V.apply e.1 e.2).1 = (0, .none)) (hn : Ent (V.apply e.1 e.2).2 (q + 1) (b.drop z) U r c n) : Ent V q b U r (c + 1) (n + z)
theorem Ent.le {V U : Vw} {q r c n : Nat} {b : List UInt8} (h : Ent V q b U r c n) : n ≤ b.length ∧ r = q + c := by
  induction h with
  | none _ => exact ⟨Nat.zero_le _, rfl⟩
  | bad _ _ => exact ⟨Nat.zero_le _, rfl⟩
  | step h _ _ ih =>
    have h1 := (h.fine _ _ _ rfl).2.2.1; rw [List.length_drop] at ih; exact ⟨by omega, by omega⟩
/-- Entries that were laid are read, and what follows is read behind them. -/
theorem Ent.frames {tail : List UInt8} {W : Vw} {r c n : Nat} : ∀ {es : List En} {V U : Vw} {q : Nat}, runs V es = some U → (∀ e ∈ es, EnOk e) → (frames q es ++ tail).length ≤ 1000000 → q + es.length < 9223372036854775807 → Ent U (q + es.length) tail W r c n → Ent V q (frames q es ++ tail) W r (c + es.length) (n + (frames q es).length)
  | [], V, U, q, h, _, _, _, ht => by cases h; exact ht
  | e :: es, V, U, q, h, hE, hl, hq, ht => by
    simp only [runs] at h
    split at h
    · rename_i h1
      simp only [Go.Proofs.YtdkgdjnbpjjfmaaGreatDoor.frames, List.append_assoc, List.length_append, List.length_cons] at hl hq ht ⊢; have hd : (frame (q + 1) e ++ (Go.Proofs.YtdkgdjnbpjjfmaaGreatDoor.frames (q + 1) es ++ tail)).drop (frame (q + 1) e).length = Go.Proofs.YtdkgdjnbpjjfmaaGreatDoor.frames (q + 1) es ++ tail := List.drop_left; have ih := Ent.frames (tail := tail) (q := q + 1) h (fun x hx => hE x (List.mem_cons_of_mem _ hx)) (by simp only [List.length_append]; omega) (by omega) (by rw [show q + 1 + es.length = q + (es.length + 1) by omega]; exact ht)
      have h2 := Ent.step (erd_frame (q := q + 1) (rest := Go.Proofs.YtdkgdjnbpjjfmaaGreatDoor.frames (q + 1) es ++ tail) (hE e (List.mem_cons_self ..)) (by omega) (by simp only [List.length_append]; omega)) h1 (by rw [hd]; exact ih); rw [show c + (es.length + 1) = c + es.length + 1 by omega, show n + ((frame (q + 1) e).length + (Go.Proofs.YtdkgdjnbpjjfmaaGreatDoor.frames (q + 1) es).length) = n + (Go.Proofs.YtdkgdjnbpjjfmaaGreatDoor.frames (q + 1) es).length + (frame (q + 1) e).length by omega]; exact h2
    · cases h
end Go.Proofs.YtdkgdjnbpjjfmaaGreatDoor
namespace Go.Proofs.YtdkgdjnbpjjfmaaGreatDoor
set_option linter.all false
open Go.RowKit
attribute [local irreducible] zAq
variable {g w : World} {L M : List HP} {ad : Nat → Addr} {p mn mk sc : Nat} {sa : Option Addr} {d : Dk} {ptr : List (Nat × Nat)}

/-- A new file is laid among the others. -/
theorem Mem.addFile {b : Nat} (ho : d.ok) (hs : Mem g w (cells b [.int .i64 ((d.files + 1 : Nat) : Int), .slice none 0 0, .int .i64 0] 94 :: (zC9 p { d with files := d.files + 1 } mn mk sa sc ptr ++ L))) : Mem g w (zC9 p d.addF mn mk sa sc (zCd ptr (d.files + 1) b) ++ L) := by
  have h1 : Mem g w (fiC b ⟨d.files + 1, [], 0⟩ :: (zC9 p { d with files := d.files + 1 } mn mk sa sc ptr ++ L)) :=
    Mem.closeF (f := ⟨d.files + 1, [], 0⟩) (a := none) (c := 0) ((hs.addE (zDo _)).arr [1, 0] 2 (by decide))
  have h2 := Mem.famPut (R := fiC) (k := d.files + 1) h1 4 rfl (fun _ h => h.elim); rw [aput_end (v := (⟨d.files + 1, [], 0⟩ : Fl)) ho.fresh] at h2
  have hf : ∀ l : List (ByteArray × Nat), (∀ x ∈ l, x.2 ∈ zAl d.fs) → nmV (zCd ptr (d.files + 1) b) l = nmV ptr l := fun l hl => nmV_more fun x hx e => ho.fresh (e ▸ hl x hx)
  have e1 := hf d.names ho.nin; have e2 := hf d.kept ho.kin
  have e3 : d.changes.map (chgV (zCd ptr (d.files + 1) b)) = d.changes.map (chgV ptr) := chgV_more fun c hc i hi e => ho.fresh (e ▸ ho.cin c hc i hi)
  show Mem g w ([cells p (diskL mn mk { d with files := d.files + 1 } sa sc) 72, mapS mn (nmV (zCd ptr (d.files + 1) b) d.names), mapS mk (nmV (zCd ptr (d.files + 1) b) d.kept), zFp 3 (.slice sa d.changes.length sc) (d.changes.map (chgV (zCd ptr (d.files + 1) b))), famC fiC (zCd ptr (d.files + 1) b) (d.fs ++ [(d.files + 1, ⟨d.files + 1, [], 0⟩)])] ++ L)
  rw [e1, e2, e3]; exact h2
theorem create_sl (hE : ErrK ad g) (hs : Mem g w (zBz p d :: L)) (hc : d.calls < 1000000) (n : ByteArray) {k : Nat} {d2 : Dk} (hk : d.create n = (k, d2)) : Calls Tryz.prog 34 #[.pointer (some ⟨p, 0, none⟩), .string n] w (Ret fun v w' => v = zAq ad k ∧ Mem g w' (zBz p d2 :: L)) := by
  obtain ⟨ho, mn, mk, sa, sc, ptr, hs⟩ := hs.openD; have hb := d.begin_same; have hbc := d.begin_code; have ho1 := ho.begin; have hf1 := ho1.fcl; have hk1 := ho1.kl
  cases hn : zB5 d.begin.2.names n with
  | none =>
    refine zAo Tryz.func34 rfl rfl ?_
    skip
    refine zA6 (zA1 ?_); refine zA rfl (zA2 (v := .nilIface) rfl) ?_; refine zA4 ?_; refine zA6 ?_; refine zA6 (zA1 ?_); refine zA rfl (zA0 (v := .pointer (some _)) rfl) ?_; refine zAb rfl en73 (begin_sl hE ho hs) ?_; clear hs; rintro _ w ⟨rfl, hs⟩; refine zA rfl (zA2 (v := zAq ad _) rfl) ?_; refine zA4 (zA6 (zA1 ?_)); refine zA rfl (zA0 (v := zAq ad _) rfl) ?_; refine zA rfl (zAt (ad := ad) rfl) ?_; refine zA4 ?_; refine zB8 rfl ?_ ?_
    ·
     intro h9; have g9 := ne_t h9; refine zA6 (zA1 ?_); refine zA rfl (zA0 (v := zAq ad _) rfl) ?_; refine zA rfl (zA2 (v := zAq ad _) rfl) ?_; refine zA4 ?_; refine zAg ?_; refine zBl (v := zAq ad _) rfl rfl ?_
     have hb1 : d.begin.1 ≠ 0 := by simpa using h9
     have e : d.create n = (110, d.begin.2) := by simp [Dk.create, hb1]
     rw [e] at hk
     cases hk
     rw [show d.begin.1 = 110 by omega]; exact ⟨_, rfl, rfl, Mem.closeD ho1 hs⟩
    ·
     intro h9; have g9 := ne_f h9; refine zAf ?_; refine zA6 ?_; refine zAw ?_; refine zA6 (zA1 ?_); refine zA rfl (zA0 (v := .string _) rfl) ?_; refine zAb rfl en74 (valid_sl hs n) ?_; clear hs; rintro _ w ⟨rfl, hs⟩; refine zA rfl (zC4 rfl) ?_; refine zA rfl (zA2 (v := .bool _) rfl) ?_; refine zA4 ?_; refine zB8 rfl ?_ ?_
     ·
      intro h13; replace h13 := zFu h13; refine zA6 (zA1 ?_); refine zA rfl (zA8 zCq rfl rfl (hE.cellW hs 106 (by decide) rfl)) ?_; refine zA rfl (zA2 (v := zAq ad _) rfl) ?_; refine zA4 ?_; refine zAg ?_; refine zBl (v := zAq ad _) rfl rfl ?_
      have hb1 : d.begin.1 = 0 := by simpa using h9
      have e : d.create n = (106, d.begin.2) := by simp [Dk.create, hb1, h13]
      rw [e] at hk
      cases hk
      exact ⟨_, rfl, rfl, Mem.closeD ho1 hs⟩
     ·
      intro h13; replace h13 := zEs h13; refine zA6 (zA1 ?_); refine zA rfl (zA0 (v := .pointer (some _)) rfl) ?_; refine zA rfl (zA7 rfl) ?_; refine zA rfl (zA3 (o' := 1) uz72 rfl sz69 rfl rfl rfl) ?_; refine zA rfl (zA8 uz69 rfl rfl (hs.cellAt 0 rfl rfl)) ?_; refine zA rfl (zA0 (v := .string _) rfl) ?_; refine zA rfl (zG4 (hs.mapAt 1 rfl) zG6 uz69 uz9 ze90 rfl rfl (o := none) (by rw [nmV_get, hn]; rfl)) ?_; refine zA rfl (zEi uz90 rfl rfl) ?_; refine zA rfl (zA2 (v := .bool _) rfl) ?_; refine zA4 ?_; refine zAx rfl (rfl) ?_; refine zAf ?_; refine zA6 (zA1 ?_); refine zA rfl (zA0 (v := .pointer (some _)) rfl) ?_; refine zA rfl (zA7 rfl) ?_
      refine zA rfl (zA3 (o' := 4) uz72 rfl sz3 rfl rfl rfl) ?_; refine zA rfl (zA8 uz3 rfl rfl (hs.cellAt 0 rfl rfl)) ?_; refine zA rfl (zAs rfl rfl rfl (inI (by omega) (by omega))) ?_; refine zA rfl (zA7 rfl) ?_; refine zA rfl (zA3 (o' := 4) uz72 rfl sz3 rfl rfl rfl) ?_; refine zAr (v := .int .i64 _) hs 0 rfl sz3 rfl rfl rfl rfl ?_; clear hs; intro w hs
      try simp only [List.set_cons_succ, List.set_cons_zero] at hs
      refine zA4 (zA6 (zA1 ?_)); refine zA rfl (zA0 (v := .pointer (some _)) rfl) ?_; refine zA rfl (zA0 (v := .string _) rfl) ?_; refine zA rfl (zA0 (v := .pointer (some _)) rfl) ?_; refine zA rfl (zA7 rfl) ?_; refine zA rfl (zA3 (o' := 4) uz72 rfl sz3 rfl rfl rfl) ?_; refine zA rfl (zA8 uz3 rfl rfl (hs.cellAt 0 rfl rfl)) ?_; refine zA rfl (zC3 (cs := [.int .i64 ((d.begin.2.files + 1 : Nat) : Int), .slice none 0 0, .int .i64 0]) uz94 ze94 pl94 rfl) ?_; refine zCj (v := .agg _) hs rfl rfl ?_; clear hs; intro b39 w hs; replace hs := Mem.addFile (d := d.begin.2) ho1 hs; refine zA rfl (zC3 (cs := [.string n, .string ByteArray.empty, .pointer (some ⟨b39, 0, none⟩)]) zG ze120 pl120 rfl) ?_
      refine zAb rfl en75 (change_sl (d := d.begin.2.addF) (by show d.begin.2.calls < _; omega) (by show d.begin.2.changes.length < _; omega) hs ⟨n, ByteArray.empty, some (d.begin.2.files + 1)⟩ (fun i hi => by cases hi; exact ⟨b39, zB9 _ _ _⟩) (row := [.string n, .string ByteArray.empty, .pointer (some ⟨b39, 0, none⟩)]) (by simp [chgV, fptr, zB9])) ?_; clear hs; rintro _ w ⟨rfl, sa2, sc2, hs⟩; refine zA4 (zA6 (zA1 ?_)); refine zA rfl (zA2 (v := .nilIface) rfl) ?_; refine zA4 ?_; refine zAg ?_; refine zBl (v := .nilIface) rfl rfl ?_
      have hb1 : d.begin.1 = 0 := by simpa using h9
      have e : d.create n = (0, d.begin.2.addF.change ⟨n, ByteArray.empty, some (d.begin.2.files + 1)⟩) := by simp [Dk.create, hb1, h13, hn, Dk.addF]
      rw [e] at hk
      cases hk
      exact ⟨_, rfl, (zB6 ad).symm, Mem.closeD (ho1.create fun i hi => by cases hi; rfl) hs⟩
  | some i =>
    obtain ⟨b, hbp, hp, hf⟩ := ho.ptrOf hs 4 rfl (ho.named (n := n) (by rw [← hb.2.1]; exact hn)); refine zAo Tryz.func34 rfl rfl ?_
    skip
    refine zA6 (zA1 ?_); refine zA rfl (zA2 (v := .nilIface) rfl) ?_; refine zA4 ?_; refine zA6 ?_; refine zA6 (zA1 ?_); refine zA rfl (zA0 (v := .pointer (some _)) rfl) ?_; refine zAb rfl en73 (begin_sl hE ho hs) ?_; clear hs; rintro _ w ⟨rfl, hs⟩; refine zA rfl (zA2 (v := zAq ad _) rfl) ?_; refine zA4 (zA6 (zA1 ?_)); refine zA rfl (zA0 (v := zAq ad _) rfl) ?_; refine zA rfl (zAt (ad := ad) rfl) ?_; refine zA4 ?_; refine zB8 rfl ?_ ?_
    ·
     intro h9; have g9 := ne_t h9; refine zA6 (zA1 ?_); refine zA rfl (zA0 (v := zAq ad _) rfl) ?_; refine zA rfl (zA2 (v := zAq ad _) rfl) ?_; refine zA4 ?_; refine zAg ?_; refine zBl (v := zAq ad _) rfl rfl ?_
     have hb1 : d.begin.1 ≠ 0 := by simpa using h9
     have e : d.create n = (110, d.begin.2) := by simp [Dk.create, hb1]
     rw [e] at hk
     cases hk
     rw [show d.begin.1 = 110 by omega]; exact ⟨_, rfl, rfl, Mem.closeD ho1 hs⟩
    ·
     intro h9; have g9 := ne_f h9; refine zAf ?_; refine zA6 ?_; refine zAw ?_; refine zA6 (zA1 ?_); refine zA rfl (zA0 (v := .string _) rfl) ?_; refine zAb rfl en74 (valid_sl hs n) ?_; clear hs; rintro _ w ⟨rfl, hs⟩; refine zA rfl (zC4 rfl) ?_; refine zA rfl (zA2 (v := .bool _) rfl) ?_; refine zA4 ?_; refine zB8 rfl ?_ ?_
     ·
      intro h13; replace h13 := zFu h13; refine zA6 (zA1 ?_); refine zA rfl (zA8 zCq rfl rfl (hE.cellW hs 106 (by decide) rfl)) ?_; refine zA rfl (zA2 (v := zAq ad _) rfl) ?_; refine zA4 ?_; refine zAg ?_; refine zBl (v := zAq ad _) rfl rfl ?_
      have hb1 : d.begin.1 = 0 := by simpa using h9
      have e : d.create n = (106, d.begin.2) := by simp [Dk.create, hb1, h13]
      rw [e] at hk
      cases hk
      exact ⟨_, rfl, rfl, Mem.closeD ho1 hs⟩
     ·
      intro h13; replace h13 := zEs h13; refine zA6 (zA1 ?_); refine zA rfl (zA0 (v := .pointer (some _)) rfl) ?_; refine zA rfl (zA7 rfl) ?_; refine zA rfl (zA3 (o' := 1) uz72 rfl sz69 rfl rfl rfl) ?_; refine zA rfl (zA8 uz69 rfl rfl (hs.cellAt 0 rfl rfl)) ?_; refine zA rfl (zA0 (v := .string _) rfl) ?_; refine zA rfl (zG4 (hs.mapAt 1 rfl) zG6 uz69 uz9 ze90 rfl rfl (o := some (.pointer (some ⟨b, 0, none⟩))) (by rw [nmV_get, hn, Option.map_some, hp])) ?_; refine zA rfl (zEi uz90 rfl rfl) ?_; refine zA rfl (zA2 (v := .bool _) rfl) ?_; refine zA4 ?_; refine zBb rfl rfl ?_; refine zA6 (zA1 ?_); refine zA rfl (zA8 zCq rfl rfl (hE.cellW hs 108 (by decide) rfl)) ?_
      refine zA rfl (zA2 (v := zAq ad _) rfl) ?_; refine zA4 ?_; refine zAg ?_; refine zBl (v := zAq ad _) rfl rfl ?_
      have hb1 : d.begin.1 = 0 := by simpa using h9
      have e : d.create n = (108, d.begin.2) := by simp [Dk.create, hb1, h13, hn]
      rw [e] at hk
      cases hk
      exact ⟨_, rfl, rfl, Mem.closeD ho1 hs⟩

/-! ### Used -/
theorem sum_del (f : Nat → Nat) : ∀ {l : List (ByteArray × Nat)} {k : ByteArray} {i : Nat}, zB5 l k = some i → ((zE8 l k).map fun x => f x.2).sum + f i = (l.map fun x => f x.2).sum
  | (a, b) :: l, k, i, h => by
    simp only [zB5] at h; simp only [zE8]
    split at h
    · rename_i e
      rw [if_pos e]
      cases h
      simp [Nat.add_comm]
    · rename_i e
      rw [if_neg e]; have := sum_del f h; simp only [List.map_cons, List.sum_cons]
      omega
theorem usedP_sl (hs : Mem g w (zC9 p d mn mk sa sc ptr ++ L)) (ho : d.ok) (hc : d.calls < 1000000) : Calls Tryz.prog 47 #[.pointer (some ⟨p, 0, none⟩)] w (Ret fun v w' => v = .int .i64 d.used ∧ Mem g w' (zC9 p d mn mk sa sc ptr ++ L)) := by
  have hu := Dk.used_le ho; refine zAo Tryz.func47 rfl rfl ?_
  skip
  refine zA6 (zA1 ?_); refine zA rfl (zA2 (v := .int .i64 _) rfl) ?_; refine zA4 (zA6 (zA1 ?_)); refine zA rfl (zA2 (v := .int .i64 _) rfl) ?_; refine zA4 ?_; refine zA6 ?_; refine zA6 (zA1 ?_); refine zA rfl (zA0 (v := .pointer (some _)) rfl) ?_; refine zA rfl (zA7 rfl) ?_; refine zA rfl (zA3 (o' := 1) uz72 rfl sz69 rfl rfl rfl) ?_; refine zA rfl (zA8 uz69 rfl rfl (hs.cellAt 0 rfl rfl)) ?_; refine lw_rangeM hs rfl 1 rfl uz69 rfl ?_; clear hs; intro r10 w hs
  try simp only [List.set_cons_succ, List.set_cons_zero] at hs
  refine zA4 ?_; refine zAw ?_; refine zBw (X := Nat × List (ByteArray × Nat) × Option (ByteArray × Value)) [3, 5, 11, 12, 13, 14, 15, 16, 17, 18, 19, 20, 21] (fun x => [(3, .int .i64 (x.1 : Nat))]) (fun x w => x.1 + (x.2.1.map fun y => d.len y.2).sum = d.used ∧ (∀ y ∈ x.2.1, y ∈ d.names) ∧ Mem g w (cells p (diskL mn mk d sa sc) 72 :: rngC Value.string r10 mn (nmV ptr d.names) (nmV ptr x.2.1) x.2.2 :: mapS mk (nmV ptr d.kept) :: zFp 3 (.slice sa d.changes.length sc) (d.changes.map (chgV ptr)) :: famC fiC ptr d.fs :: L)) (fun x => x.2.1.length) ((0, d.names, none)) ?_ ?_ ?_
  · exact ⟨rfl, trivial⟩
  · exact ⟨by simp [Dk.used], fun _ h => h, hs⟩
  clear hs; rintro x ξ w hI; obtain ⟨n, lo, cur⟩ := x; obtain ⟨hsum, hin, hs⟩ := hI; simp only at hsum hin hs
  show cw _ _ _ _ _ _ (updL (mix _ ξ _) [(3, .int .i64 (n : Nat))]) w
  refine zA6 (zA1 ?_); refine lw_nextM hs rfl 1 rfl zG6.inj rfl ?_ ?_
  ·
   intro hl11; refine zA rfl (zAa (v := .bool _) rfl rfl) ?_; refine zA4 ?_; refine zA6 ?_; refine zAx rfl rfl ?_; refine zBg rfl ?_; refine zA6 (zA1 ?_); refine zA rfl (zA0 (v := .int .i64 _) rfl) ?_; refine zA rfl (zA2 (v := .int .i64 _) rfl) ?_; refine zA4 ?_; refine zAg ?_; refine zBl (v := .int .i64 _) rfl rfl ?_
   have e : lo = [] := by cases lo with | nil => rfl | cons x l => simp [nmV] at hl11
   subst e; simp only [List.map_nil, List.sum_nil, Nat.add_zero] at hsum; subst hsum; exact ⟨_, rfl, rfl, hs.rngd 1 rfl⟩
  ·
   clear hs; intro k11 v11 w hk11 hs
   try simp only [List.set_cons_succ, List.set_cons_zero] at hs
   have hk2 := hk11; rw [nmV_get] at hk2; obtain ⟨i, hi, rfl⟩ := Option.map_eq_some_iff.1 hk2; have hik : i ∈ zAl d.fs := ho.nin _ (hin _ (zDx hi)); obtain ⟨b, hb, hp, hf⟩ := ho.ptrOf hs 4 rfl hik; rw [hp] at hs ⊢; have hle := sum_del d.len hi; have hlen := ho.tookB.len_eq hik; have h3 := (ho.fid _ _ hf).2.2; obtain ⟨fa, fc, _, hcell, _⟩ := hs.flCells 4 rfl hb hf; refine zA rfl (zAa (v := .bool _) rfl rfl) ?_; refine zA4 ?_; refine zA6 ?_; refine zBb rfl rfl ?_; refine zAf ?_; refine zAw ?_; refine zA6 (zA1 ?_); refine zA rfl (run_entryM hs 1 rfl rfl) ?_; refine zA rfl (zAa (v := .pointer (some _)) rfl rfl) ?_; refine zA rfl (zA2 (v := .pointer (some _)) rfl) ?_; refine zA4 ?_
   refine zA1 ?_; refine zA rfl (zA0 (v := .int .i64 _) rfl) ?_; refine zA rfl (zA0 (v := .pointer (some _)) rfl) ?_; refine zA rfl (zA7 rfl) ?_; refine zA rfl (zA3 (o' := 1) uz94 rfl sz23 rfl rfl rfl) ?_; refine zA rfl (zA8 zC0 rfl rfl hcell) ?_; refine zA rfl (zB2 zC0 rfl) ?_; refine zA rfl (zAs rfl rfl (c := ((n + d.len i : Nat) : Int)) (by rw [hlen]; simp) (inI (by omega) (by omega))) ?_; refine zA rfl (zA2 (v := .int .i64 _) rfl) ?_; refine zA4 ?_
   refine ⟨(n + d.len i, zE8 lo k11, some (k11, .pointer (some ⟨b, 0, none⟩))), ?_, ⟨by show n + d.len i + ((zE8 lo k11).map fun y => d.len y.2).sum = d.used; omega, fun y hy => hin y (adel_in hy), ?_⟩, ⟨rfl, trivial⟩, by repeat (first | exact Out.mix _ _ _ | refine Out.updo rfl ?_ | refine Out.upd rfl ?_ | refine Out.mixIn rfl ?_)⟩
   · exact adel_shrink hi
   · rw [← nmV_del] at hs; exact hs
end Go.Proofs.YtdkgdjnbpjjfmaaGreatDoor
