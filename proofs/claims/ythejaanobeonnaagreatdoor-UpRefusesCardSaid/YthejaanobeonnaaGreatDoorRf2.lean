/- An error, bare or with a place, as a value and a chunk; the chunks of a view. The seat's closed facts: sizes and zeros of types, entries of functions. Written by a program (mkty.py). Contracts over chunks that every seat wants. Manifests: the leaves: pairs, objects, copies, equality. Manifests: objects, equality, what is amiss. Manifests: what is amiss with one. SameInts, SameTexts. Manifests: Valid, Same, Clone, Names; what may follow what. Views: plain laws. A number of the statements, exactly. The sums' plain law: four bits at a time are as one at a time. crc: halves, More, Of. cordwoodref1.ValidName: the document's names are the program's. The document's sum (cordwoodref1.More, Sum): bit by bit. The document's manifests: Make, ValidManifest, and what they call. -/
import Derived.Test.YthejaanobeonnaaGreatDoorRf1
import Derived.Test.YthejaanobeonnaaGreatDoorProg
import Derived.Laws.StructEq
import Derived.Laws.Bits64
import Derived.Shelf.Spec.TrailingZeros
import Derived.Deep.LoopGhost
set_option linter.all false
namespace Go.Proofs.YthejaanobeonnaaGreatDoor
section
open Go.RowKit
variable {g w : World} {L M : List HP} {ad : Nat → Addr} {p : Nat}
def flV (ad : Nat → Addr) (f : Flt) (eb : Nat) : Value := match f.2 with | none => zAh ad f.1 | some _ => .iface 112 (.pointer (some ⟨eb, 0, none⟩))
def flC (ad : Nat → Addr) (f : Flt) (eb : Nat) : HP := match f.2 with | none => emp | some z => cells eb [.int .i64 (z : Nat), zAh ad f.1] 114
theorem flV_bare (c eb : Nat) : flV ad (c, none) eb = zAh ad c := rfl
theorem flC_bare (c eb : Nat) : flC ad (c, none) eb = emp := rfl
theorem flV_at (c z eb : Nat) : flV ad (c, some z) eb = .iface 112 (.pointer (some ⟨eb, 0, none⟩)) := rfl
theorem emp_okF (w : World) : emp.ok (fun _ => False) w := fun _ h => h
def RetF (ad : Nat → Addr) (f : Flt) (g : World) (L : List HP) : Value → World → Prop := fun v w' => ∃ eb, v = flV ad f eb ∧ Mem g w' (flC ad f eb :: L)
theorem RetF.bare {c : Nat} (hs : Mem g w L) : RetF ad (c, none) g L (zAh ad c) w := ⟨0, rfl, hs.addE (emp_okF w)⟩
section
variable {ρ : Env} {dst : Option Tmp} {ty : TypeId} {pos : String} {aft : Array Edge} {x : Operand} {u : TypeId} {f : Flt} {eb : Nat}
theorem run_neF (hf : f.2 = none ∨ f.1 ≠ 0) (hx : ev ρ x = flV ad f eb) : (execOp (ev ρ) ⟨dst, .binOp .neq 27 x (.const .nilIface) u, ty, pos, aft, none⟩).run Tryz.prog w = .ok (.value (.bool (!decide (f.1 = 0)))) w := by
  obtain ⟨c, z⟩ := f
  cases z with
  | none => exact zAx hx
  | some z =>
    have hc : c ≠ 0 := by simpa using hf
    rw [flV_at] at hx; rw [show (decide (((c, some z) : Flt).1 = 0)) = false from decide_eq_false hc]; have hy : ev ρ (.const .nilIface) = .nilIface := rfl
    have hg : (eqGuard .neq 27 x (.const .nilIface) (.iface 112 (.pointer (some ⟨eb, 0, none⟩))) .nilIface).run Tryz.prog w = .ok () w := by cases x <;> rfl
    have hb : binOp .neq 27 (.iface 112 (.pointer (some ⟨eb, 0, none⟩))) .nilIface = (do pure (.bool (!(← Op.equal 27 (.iface 112 (.pointer (some ⟨eb, 0, none⟩))) .nilIface)))) := rfl
    have he : (Op.equal 27 (.iface 112 (.pointer (some ⟨eb, 0, none⟩))) .nilIface).run Tryz.prog w = .ok false w := by
      show (Op.equalIn 10000 _ _ _).run Tryz.prog w = _
      rw [Op.equalIn]
      simp [run_underlying zCe]
    simp only [execOp, hx, hy, Sem.run_bind, hg, hb, he, Result.andThen_ok, Sem.run_pure]
end
theorem FltOk.place {f : Flt} (h : FltOk f) : f.2 = none ∨ f.1 ≠ 0 := by
  rcases h.2 with h | h
  · exact .inl h
  · right; intro e; rw [e] at h; revert h; decide
structure MfR (g : World) (L : List HP) (x : Mf) (e o : SA) : Prop where
  eps : RdK g L 2 (.slice e.1 x.eps.length e.2) (x.eps.map prL)
  obs : RdK g L 3 (.slice o.1 x.obs.length o.2) (x.obs.map obL)
theorem MfR.cons {x : Mf} {e o : SA} {C : HP} (h : MfR g L x e o) : MfR g (C :: L) x e o := ⟨h.eps.cons, h.obs.cons⟩
abbrev mfP (x : Mf) (e o : SA) : List HP := [zEy 2 (.slice e.1 x.eps.length e.2) (x.eps.map prL), zEy 3 (.slice o.1 x.obs.length o.2) (x.obs.map obL)]
theorem MfR.own {x : Mf} {e o : SA} (i j : Nat) (hi : L[i]? = some (zEy 2 (.slice e.1 x.eps.length e.2) (x.eps.map prL))) (hj : L[j]? = some (zEy 3 (.slice o.1 x.obs.length o.2) (x.obs.map obL))) : MfR g L x e o := ⟨RdK.row i hi, RdK.row j hj⟩
theorem zE5 {l : List Pr} {k : Nat} {x : Pr} (h : l[k]? = some x) : (l.map prL)[k]? = some (prL x) := by simp [h]
theorem zFg {l : List Ob} {k : Nat} {x : Ob} (h : l[k]? = some x) : (l.map obL)[k]? = some (obL x) := by simp [h]
theorem prL_rows (l : List Pr) : ∀ r ∈ l.map prL, r.length = 2 ∧ ∀ u ∈ r, u.oneCell' = true := fun r hr => by
  obtain ⟨x, _, rfl⟩ := List.mem_map.1 hr; refine ⟨rfl, fun u hu => ?_⟩; simp only [prL, List.mem_cons, List.not_mem_nil, or_false] at hu
  rcases hu with rfl | rfl <;> rfl
theorem obL_rows (l : List Ob) : ∀ r ∈ l.map obL, r.length = 3 ∧ ∀ u ∈ r, u.oneCell' = true := fun r hr => by
  obtain ⟨x, _, rfl⟩ := List.mem_map.1 hr; refine ⟨rfl, fun u hu => ?_⟩; simp only [obL, List.mem_cons, List.not_mem_nil, or_false] at hu
  rcases hu with rfl | rfl | rfl <;> rfl
def itmV (i : Itm) (e o : SA) : Value := .agg (.int .i64 i.st :: mfL i.m e o).toArray
def itmC (v : Value) (i : Itm) : HP := ex fun s : SA × SA => also (stars (mfP i.m s.1 s.2)) (v = itmV i s.1 s.2)
theorem Mem.openItm {v : Value} {i : Itm} (hs : Mem g w (itmC v i :: L)) : ∃ e o, v = itmV i e o ∧ Mem g w (mfP i.m e o ++ L) := by
  obtain ⟨⟨e, o⟩, h⟩ := hs.unex; obtain ⟨h1, h2⟩ := h.unalso; exact ⟨e, o, h1, h2.unstars⟩
theorem Mem.closeItm {i : Itm} {e o : SA} (hs : Mem g w (mfP i.m e o ++ L)) : Mem g w (itmC (itmV i e o) i :: L) :=
  Mem.ex (f := fun s : SA × SA => Go.Proofs.YthejaanobeonnaaGreatDoor.also (Go.Proofs.YthejaanobeonnaaGreatDoor.stars (mfP i.m s.1 s.2)) (itmV i e o = itmV i s.1 s.2)) (e, o) (Mem.also rfl hs.stars)
structure Vw.ok (V : Vw) : Prop where
  nd : (zAl V).Nodup
  fine : ∀ x ∈ V, (mfF x.2.m).1 = 0 ∧ x.2.m.id = x.1 ∧ 1 ≤ x.2.st ∧ x.2.st ≤ 4
  few : V.length ≤ 4096
abbrev mapV (m : Nat) (es : List (Int × Value)) : HP := mapC (Value.int .i64) m es
abbrev viewP (p m : Nat) (es : List (Int × Value)) (V : Vw) : List HP := [cells p [.map (some m)] 131, mapV m es, famC itmC es V]
def ViewC (p : Nat) (V : Vw) : HP := ex fun x : Nat × List (Int × Value) => also (stars (viewP p x.1 x.2 V)) V.ok
theorem Mem.openV {V : Vw} (hs : Mem g w (ViewC p V :: L)) : V.ok ∧ ∃ m es, Mem g w (viewP p m es V ++ L) := by
  obtain ⟨⟨m, es⟩, h⟩ := hs.unex; obtain ⟨h1, h2⟩ := h.unalso; exact ⟨h1, m, es, h2.unstars⟩
theorem Mem.closeV {V : Vw} {m : Nat} {es : List (Int × Value)} (ho : V.ok) (hs : Mem g w (viewP p m es V ++ L)) : Mem g w (ViewC p V :: L) :=
  Mem.ex (f := fun x : Nat × List (Int × Value) => Go.Proofs.YthejaanobeonnaaGreatDoor.also (Go.Proofs.YthejaanobeonnaaGreatDoor.stars (viewP p x.1 x.2 V)) V.ok) (m, es) (Mem.also ho hs.stars)
theorem Mem.closeV1 {C : HP} {V : Vw} {m : Nat} {es : List (Int × Value)} (ho : V.ok) (hs : Mem g w (C :: (viewP p m es V ++ L))) : Mem g w (C :: ViewC p V :: L) :=
  (Mem.closeV (L := C :: L) ho (hs.arr [1, 2, 3, 0] 4 (by decide))).arr [1, 0] 2 (by decide)
theorem keys_len {κ α β : Type} {l : List (κ × α)} {m : List (κ × β)} (h : zAl l = zAl m) : l.length = m.length := by
  have := congrArg List.length h
  simpa [zAl] using this
end
section
open Go.RowKit
theorem in2 : (Tryz.prog.info? 2).map (fun i => (i.zero, i.size, i.bytes)) = some (some (.int .i64 0), 1, 8) := by kernel_rfl
theorem sz2 : (Tryz.prog.info? 2).map (·.size) = some 1 := by kernel_rfl
theorem zs2 : (Tryz.prog.info? 2).map (fun i => (i.zero, i.size)) = some (some (.int .i64 0), 1) := by kernel_rfl
theorem sz3 : (Tryz.prog.info? 3).map (·.size) = some 1 := by kernel_rfl
theorem ze3 : (Tryz.prog.info? 3).map (·.zero) = some (some (.int .i64 0)) := by kernel_rfl
theorem sz4 : (Tryz.prog.info? 4).map (·.size) = some 1 := by kernel_rfl
theorem in5 : (Tryz.prog.info? 5).map (fun i => (i.zero, i.size, i.bytes)) = some (some (.int .u8 0), 1, 1) := by kernel_rfl
theorem sz5 : (Tryz.prog.info? 5).map (·.size) = some 1 := by kernel_rfl
theorem zs5 : (Tryz.prog.info? 5).map (fun i => (i.zero, i.size)) = some (some (.int .u8 0), 1) := by kernel_rfl
theorem sz9 : (Tryz.prog.info? 9).map (·.size) = some 1 := by kernel_rfl
theorem ze9 : (Tryz.prog.info? 9).map (·.zero) = some (some (.string ByteArray.empty)) := by kernel_rfl
theorem in22 : (Tryz.prog.info? 22).map (fun i => (i.zero, i.size, i.bytes)) = some (some (.slice none 0 0), 1, 24) := by kernel_rfl
theorem sz22 : (Tryz.prog.info? 22).map (·.size) = some 1 := by kernel_rfl
theorem ze22 : (Tryz.prog.info? 22).map (·.zero) = some (some (.slice none 0 0)) := by kernel_rfl
theorem zs22 : (Tryz.prog.info? 22).map (fun i => (i.zero, i.size)) = some (some (.slice none 0 0), 1) := by kernel_rfl
theorem sz25 : (Tryz.prog.info? 25).map (·.size) = some 1 := by kernel_rfl
theorem sz27 : (Tryz.prog.info? 27).map (·.size) = some 1 := by kernel_rfl
theorem sz30 : (Tryz.prog.info? 30).map (·.size) = some 1 := by kernel_rfl
theorem sz32 : (Tryz.prog.info? 32).map (·.size) = some 1 := by kernel_rfl
theorem sz33 : (Tryz.prog.info? 33).map (·.size) = some 1 := by kernel_rfl
theorem sz36 : (Tryz.prog.info? 36).map (·.size) = some 1 := by kernel_rfl
theorem sz37 : (Tryz.prog.info? 37).map (·.size) = some 1 := by kernel_rfl
theorem zF2 : (Tryz.prog.info? 39).map (·.size) = some 6 := by kernel_rfl
theorem ze39 : (Tryz.prog.info? 39).map (·.zero) = some (some (.agg #[.int .i64 0, .int .i64 0, .int .i64 0, .int .i64 0, .slice none 0 0, .slice none 0 0])) := by kernel_rfl
theorem pl39 (w : World) : ((#[{ name := "ID", type := 3, offset := 0, embedded := false, tag := "", pkgPath := "", byteOffset := 0 }, { name := "Base", type := 2, offset := 1, embedded := false, tag := "", pkgPath := "", byteOffset := 8 }, { name := "End", type := 2, offset := 2, embedded := false, tag := "", pkgPath := "", byteOffset := 16 }, { name := "Time", type := 2, offset := 3, embedded := false, tag := "", pkgPath := "", byteOffset := 24 }, { name := "Epochs", type := 36, offset := 4, embedded := false, tag := "", pkgPath := "", byteOffset := 32 }, { name := "Objects", type := 37, offset := 5, embedded := false, tag := "", pkgPath := "", byteOffset := 56 }] : Array Field).mapM (m := Sem) fun f => do pure (f.offset, ← sizeOf f.type)).run Tryz.prog w = .ok #[(0, 1), (1, 1), (2, 1), (3, 1), (4, 1), (5, 1)] w := by kernel_rfl
theorem zE4 : (Tryz.prog.info? 42).map (·.size) = some 3 := by kernel_rfl
theorem ze42 : (Tryz.prog.info? 42).map (·.zero) = some (some (.agg #[.int .i64 0, .bool false, .int .i64 0])) := by kernel_rfl
theorem pl42 (w : World) : ((#[{ name := "Code", type := 3, offset := 0, embedded := false, tag := "", pkgPath := "", byteOffset := 0 }, { name := "Placed", type := 4, offset := 1, embedded := false, tag := "", pkgPath := "", byteOffset := 8 }, { name := "Pos", type := 3, offset := 2, embedded := false, tag := "", pkgPath := "", byteOffset := 16 }] : Array Field).mapM (m := Sem) fun f => do pure (f.offset, ← sizeOf f.type)).run Tryz.prog w = .ok #[(0, 1), (1, 1), (2, 1)] w := by kernel_rfl
theorem in46 : (Tryz.prog.info? 46).map (fun i => (i.zero, i.size, i.bytes)) = some (some (.agg #[.int .i64 0, .int .i64 0]), 2, 16) := by kernel_rfl
theorem sz46 : (Tryz.prog.info? 46).map (·.size) = some 2 := by kernel_rfl
theorem ze46 : (Tryz.prog.info? 46).map (·.zero) = some (some (.agg #[.int .i64 0, .int .i64 0])) := by kernel_rfl
theorem pl46 (w : World) : ((#[{ name := "Epoch", type := 3, offset := 0, embedded := false, tag := "", pkgPath := "", byteOffset := 0 }, { name := "Start", type := 2, offset := 1, embedded := false, tag := "", pkgPath := "", byteOffset := 8 }] : Array Field).mapM (m := Sem) fun f => do pure (f.offset, ← sizeOf f.type)).run Tryz.prog w = .ok #[(0, 1), (1, 1)] w := by kernel_rfl
theorem sz54 : (Tryz.prog.info? 54).map (·.size) = some 1 := by kernel_rfl
theorem sz62 : (Tryz.prog.info? 62).map (·.size) = some 1 := by kernel_rfl
theorem sz64 : (Tryz.prog.info? 64).map (·.size) = some 1 := by kernel_rfl
theorem ze64 : (Tryz.prog.info? 64).map (·.zero) = some (some (.int .u32 0)) := by kernel_rfl
theorem in66 : (Tryz.prog.info? 66).map (fun i => (i.zero, i.size, i.bytes)) = some (some (.agg #[.string ByteArray.empty, .int .i64 0, .int .u32 0]), 3, 32) := by kernel_rfl
theorem sz66 : (Tryz.prog.info? 66).map (·.size) = some 3 := by kernel_rfl
theorem ze66 : (Tryz.prog.info? 66).map (·.zero) = some (some (.agg #[.string ByteArray.empty, .int .i64 0, .int .u32 0])) := by kernel_rfl
theorem pl66 (w : World) : ((#[{ name := "Name", type := 9, offset := 0, embedded := false, tag := "", pkgPath := "", byteOffset := 0 }, { name := "Len", type := 3, offset := 1, embedded := false, tag := "", pkgPath := "", byteOffset := 16 }, { name := "Sum", type := 64, offset := 2, embedded := false, tag := "", pkgPath := "", byteOffset := 24 }] : Array Field).mapM (m := Sem) fun f => do pure (f.offset, ← sizeOf f.type)).run Tryz.prog w = .ok #[(0, 1), (1, 1), (2, 1)] w := by kernel_rfl
theorem sz74 : (Tryz.prog.info? 74).map (·.size) = some 1 := by kernel_rfl
theorem sz77 : (Tryz.prog.info? 77).map (·.size) = some 1 := by kernel_rfl
theorem sz85 : (Tryz.prog.info? 85).map (·.size) = some 1 := by kernel_rfl
theorem sz86 : (Tryz.prog.info? 86).map (·.size) = some 1 := by kernel_rfl
theorem ze88 : (Tryz.prog.info? 88).map (·.zero) = some (some (.agg #[.int .i64 0, .map none, .map none, .slice none 0 0, .int .i64 0, .int .i64 0, .bool false, .int .i64 0])) := by kernel_rfl
theorem pl88 (w : World) : ((#[{ name := "room", type := 3, offset := 0, embedded := false, tag := "", pkgPath := "cordwood/disk", byteOffset := 0 }, { name := "names", type := 85, offset := 1, embedded := false, tag := "", pkgPath := "cordwood/disk", byteOffset := 8 }, { name := "kept", type := 85, offset := 2, embedded := false, tag := "", pkgPath := "cordwood/disk", byteOffset := 16 }, { name := "changes", type := 86, offset := 3, embedded := false, tag := "", pkgPath := "cordwood/disk", byteOffset := 24 }, { name := "files", type := 3, offset := 4, embedded := false, tag := "", pkgPath := "cordwood/disk", byteOffset := 48 }, { name := "armed", type := 3, offset := 5, embedded := false, tag := "", pkgPath := "cordwood/disk", byteOffset := 56 }, { name := "down", type := 4, offset := 6, embedded := false, tag := "", pkgPath := "cordwood/disk", byteOffset := 64 }, { name := "calls", type := 3, offset := 7, embedded := false, tag := "", pkgPath := "cordwood/disk", byteOffset := 72 }] : Array Field).mapM (m := Sem) fun f => do pure (f.offset, ← sizeOf f.type)).run Tryz.prog w = .ok #[(0, 1), (1, 1), (2, 1), (3, 1), (4, 1), (5, 1), (6, 1), (7, 1)] w := by kernel_rfl
theorem sz89 : (Tryz.prog.info? 89).map (·.size) = some 1 := by kernel_rfl
theorem sz90 : (Tryz.prog.info? 90).map (·.size) = some 1 := by kernel_rfl
theorem ze92 : (Tryz.prog.info? 92).map (·.zero) = some (some (.agg #[.map none, .map none, .int .i64 0, .slice none 0 0, .int .i64 0, .int .i64 0])) := by kernel_rfl
theorem pl92 (w : World) : ((#[{ name := "objects", type := 89, offset := 0, embedded := false, tag := "", pkgPath := "cordwood/store", byteOffset := 0 }, { name := "uploads", type := 90, offset := 1, embedded := false, tag := "", pkgPath := "cordwood/store", byteOffset := 8 }, { name := "ids", type := 3, offset := 2, embedded := false, tag := "", pkgPath := "cordwood/store", byteOffset := 16 }, { name := "script", type := 74, offset := 3, embedded := false, tag := "", pkgPath := "cordwood/store", byteOffset := 24 }, { name := "calls", type := 3, offset := 4, embedded := false, tag := "", pkgPath := "cordwood/store", byteOffset := 48 }, { name := "failed", type := 3, offset := 5, embedded := false, tag := "", pkgPath := "cordwood/store", byteOffset := 56 }] : Array Field).mapM (m := Sem) fun f => do pure (f.offset, ← sizeOf f.type)).run Tryz.prog w = .ok #[(0, 1), (1, 1), (2, 1), (3, 1), (4, 1), (5, 1)] w := by kernel_rfl
theorem zDs : (Tryz.prog.info? 103).map (·.size) = some 4 := by kernel_rfl
theorem ze103 : (Tryz.prog.info? 103).map (·.zero) = some (some (.agg #[.int .i64 0, .int .i64 0, .int .i64 0, .int .i64 0])) := by kernel_rfl
theorem pl103 (w : World) : ((#[{ name := "ID", type := 3, offset := 0, embedded := false, tag := "", pkgPath := "", byteOffset := 0 }, { name := "Object", type := 3, offset := 1, embedded := false, tag := "", pkgPath := "", byteOffset := 8 }, { name := "Upload", type := 3, offset := 2, embedded := false, tag := "", pkgPath := "", byteOffset := 16 }, { name := "Done", type := 3, offset := 3, embedded := false, tag := "", pkgPath := "", byteOffset := 24 }] : Array Field).mapM (m := Sem) fun f => do pure (f.offset, ← sizeOf f.type)).run Tryz.prog w = .ok #[(0, 1), (1, 1), (2, 1), (3, 1)] w := by kernel_rfl
theorem sz104 : (Tryz.prog.info? 104).map (·.size) = some 1 := by kernel_rfl
theorem ze106 : (Tryz.prog.info? 106).map (·.zero) = some (some (.agg #[.pointer none, .pointer none, .pointer none, .int .i64 0, .int .i64 0, .int .i64 0, .int .i64 0, .slice none 0 0, .slice none 0 0, .slice none 0 0, .slice none 0 0, .int .i64 0, .int .i64 0, .int .i64 0, .int .i64 0, .bool false])) := by kernel_rfl
theorem pl106 (w : World) : ((#[{ name := "d", type := 25, offset := 0, embedded := false, tag := "", pkgPath := "cordwood/up", byteOffset := 0 }, { name := "l", type := 32, offset := 1, embedded := false, tag := "", pkgPath := "cordwood/up", byteOffset := 8 }, { name := "c", type := 33, offset := 2, embedded := false, tag := "", pkgPath := "cordwood/up", byteOffset := 16 }, { name := "m", type := 39, offset := 3, embedded := false, tag := "", pkgPath := "cordwood/up", byteOffset := 24 }, { name := "blobs", type := 62, offset := 9, embedded := false, tag := "", pkgPath := "cordwood/up", byteOffset := 104 }, { name := "plans", type := 104, offset := 10, embedded := false, tag := "", pkgPath := "cordwood/up", byteOffset := 128 }, { name := "at", type := 103, offset := 11, embedded := false, tag := "", pkgPath := "cordwood/up", byteOffset := 152 }, { name := "over", type := 4, offset := 15, embedded := false, tag := "", pkgPath := "cordwood/up", byteOffset := 184 }] : Array Field).mapM (m := Sem) fun f => do pure (f.offset, ← sizeOf f.type)).run Tryz.prog w = .ok #[(0, 1), (1, 1), (2, 1), (3, 6), (9, 1), (10, 1), (11, 4), (15, 1)] w := by kernel_rfl
theorem in109 : (Tryz.prog.info? 109).map (fun i => (i.zero, i.size, i.bytes)) = some (some (.agg #[.string ByteArray.empty, .int .i64 0, .int .u32 0, .int .i64 0, .int .i64 0]), 5, 48) := by kernel_rfl
theorem zG3 : (Tryz.prog.info? 109).map (·.size) = some 5 := by kernel_rfl
theorem ze109 : (Tryz.prog.info? 109).map (·.zero) = some (some (.agg #[.string ByteArray.empty, .int .i64 0, .int .u32 0, .int .i64 0, .int .i64 0])) := by kernel_rfl
theorem pl109 (w : World) : ((#[{ name := "Name", type := 9, offset := 0, embedded := false, tag := "", pkgPath := "", byteOffset := 0 }, { name := "Size", type := 3, offset := 1, embedded := false, tag := "", pkgPath := "", byteOffset := 16 }, { name := "Sum", type := 64, offset := 2, embedded := false, tag := "", pkgPath := "", byteOffset := 24 }, { name := "Each", type := 3, offset := 3, embedded := false, tag := "", pkgPath := "", byteOffset := 32 }, { name := "Parts", type := 3, offset := 4, embedded := false, tag := "", pkgPath := "", byteOffset := 40 }] : Array Field).mapM (m := Sem) fun f => do pure (f.offset, ← sizeOf f.type)).run Tryz.prog w = .ok #[(0, 1), (1, 1), (2, 1), (3, 1), (4, 1)] w := by kernel_rfl
theorem ze114 : (Tryz.prog.info? 114).map (·.zero) = some (some (.agg #[.int .i64 0, .nilIface])) := by kernel_rfl
theorem pl114 (w : World) : ((#[{ name := "Pos", type := 3, offset := 0, embedded := false, tag := "", pkgPath := "", byteOffset := 0 }, { name := "Err", type := 27, offset := 1, embedded := false, tag := "", pkgPath := "", byteOffset := 8 }] : Array Field).mapM (m := Sem) fun f => do pure (f.offset, ← sizeOf f.type)).run Tryz.prog w = .ok #[(0, 1), (1, 1)] w := by kernel_rfl
theorem sz121 : (Tryz.prog.info? 121).map (·.size) = some 7 := by kernel_rfl
theorem ze121 : (Tryz.prog.info? 121).map (·.zero) = some (some (.agg #[.int .i64 0, .int .i64 0, .int .i64 0, .int .i64 0, .int .i64 0, .slice none 0 0, .slice none 0 0])) := by kernel_rfl
theorem pl121 (w : World) : ((#[{ name := "Kind", type := 3, offset := 0, embedded := false, tag := "", pkgPath := "", byteOffset := 0 }, { name := "M", type := 39, offset := 1, embedded := false, tag := "", pkgPath := "", byteOffset := 8 }] : Array Field).mapM (m := Sem) fun f => do pure (f.offset, ← sizeOf f.type)).run Tryz.prog w = .ok #[(0, 1), (1, 6)] w := by kernel_rfl
theorem sz122 : (Tryz.prog.info? 122).map (·.size) = some 1 := by kernel_rfl
theorem zs122 : (Tryz.prog.info? 122).map (fun i => (i.zero, i.size)) = some (some (.nilFunc), 1) := by kernel_rfl
theorem ze126 : (Tryz.prog.info? 126).map (·.zero) = some (some (.agg #[.pointer none, .int .i64 0, .pointer none, .int .i64 0, .int .i64 0, .int .i64 0])) := by kernel_rfl
theorem pl126 (w : World) : ((#[{ name := "d", type := 25, offset := 0, embedded := false, tag := "", pkgPath := "cordwood/mlog", byteOffset := 0 }, { name := "every", type := 3, offset := 1, embedded := false, tag := "", pkgPath := "cordwood/mlog", byteOffset := 8 }, { name := "v", type := 54, offset := 2, embedded := false, tag := "", pkgPath := "cordwood/mlog", byteOffset := 16 }, { name := "seq", type := 2, offset := 3, embedded := false, tag := "", pkgPath := "cordwood/mlog", byteOffset := 24 }, { name := "since", type := 3, offset := 4, embedded := false, tag := "", pkgPath := "cordwood/mlog", byteOffset := 32 }, { name := "size", type := 3, offset := 5, embedded := false, tag := "", pkgPath := "cordwood/mlog", byteOffset := 40 }] : Array Field).mapM (m := Sem) fun f => do pure (f.offset, ← sizeOf f.type)).run Tryz.prog w = .ok #[(0, 1), (1, 1), (2, 1), (3, 1), (4, 1), (5, 1)] w := by kernel_rfl
theorem sz128 : (Tryz.prog.info? 128).map (·.size) = some 7 := by kernel_rfl
theorem ze128 : (Tryz.prog.info? 128).map (·.zero) = some (some (.agg #[.int .i64 0, .int .i64 0, .int .i64 0, .int .i64 0, .int .i64 0, .slice none 0 0, .slice none 0 0])) := by kernel_rfl
theorem pl128 (w : World) : ((#[{ name := "state", type := 3, offset := 0, embedded := false, tag := "", pkgPath := "cordwood/view", byteOffset := 0 }, { name := "m", type := 39, offset := 1, embedded := false, tag := "", pkgPath := "cordwood/view", byteOffset := 8 }] : Array Field).mapM (m := Sem) fun f => do pure (f.offset, ← sizeOf f.type)).run Tryz.prog w = .ok #[(0, 1), (1, 6)] w := by kernel_rfl
theorem sz129 : (Tryz.prog.info? 129).map (·.size) = some 1 := by kernel_rfl
theorem ze131 : (Tryz.prog.info? 131).map (·.zero) = some (some (.agg #[.map none])) := by kernel_rfl
theorem pl131 (w : World) : ((#[{ name := "l", type := 129, offset := 0, embedded := false, tag := "", pkgPath := "cordwood/view", byteOffset := 0 }] : Array Field).mapM (m := Sem) fun f => do pure (f.offset, ← sizeOf f.type)).run Tryz.prog w = .ok #[(0, 1)] w := by kernel_rfl
theorem ze141 : (Tryz.prog.info? 141).map (·.zero) = some (some (.pointer none)) := by kernel_rfl
theorem sz146 : (Tryz.prog.info? 146).map (·.size) = some 1 := by kernel_rfl
theorem ze146 : (Tryz.prog.info? 146).map (·.zero) = some (some (.pointer none)) := by kernel_rfl
theorem in148 : (Tryz.prog.info? 148).map (fun i => (i.zero, i.size, i.bytes)) = some (some (.agg #[.string ByteArray.empty, .string ByteArray.empty, .pointer none]), 3, 40) := by kernel_rfl
theorem sz148 : (Tryz.prog.info? 148).map (·.size) = some 3 := by kernel_rfl
theorem ze148 : (Tryz.prog.info? 148).map (·.zero) = some (some (.agg #[.string ByteArray.empty, .string ByteArray.empty, .pointer none])) := by kernel_rfl
theorem pl148 (w : World) : ((#[{ name := "name", type := 9, offset := 0, embedded := false, tag := "", pkgPath := "cordwood/disk", byteOffset := 0 }, { name := "gone", type := 9, offset := 1, embedded := false, tag := "", pkgPath := "cordwood/disk", byteOffset := 16 }, { name := "f", type := 146, offset := 2, embedded := false, tag := "", pkgPath := "cordwood/disk", byteOffset := 32 }] : Array Field).mapM (m := Sem) fun f => do pure (f.offset, ← sizeOf f.type)).run Tryz.prog w = .ok #[(0, 1), (1, 1), (2, 1)] w := by kernel_rfl
theorem ze154 : (Tryz.prog.info? 154).map (·.zero) = some (some (.agg #[.int .i64 0, .slice none 0 0, .int .i64 0])) := by kernel_rfl
theorem pl154 (w : World) : ((#[{ name := "id", type := 3, offset := 0, embedded := false, tag := "", pkgPath := "cordwood/disk", byteOffset := 0 }, { name := "b", type := 22, offset := 1, embedded := false, tag := "", pkgPath := "cordwood/disk", byteOffset := 8 }, { name := "synced", type := 3, offset := 2, embedded := false, tag := "", pkgPath := "cordwood/disk", byteOffset := 32 }] : Array Field).mapM (m := Sem) fun f => do pure (f.offset, ← sizeOf f.type)).run Tryz.prog w = .ok #[(0, 1), (1, 1), (2, 1)] w := by kernel_rfl
theorem ze162 : (Tryz.prog.info? 162).map (·.zero) = some (some (.agg #[.pointer none, .int .i64 0, .int .i64 0])) := by kernel_rfl
theorem pl162 (w : World) : ((#[{ name := "s", type := 30, offset := 0, embedded := false, tag := "", pkgPath := "cordwood/call", byteOffset := 0 }, { name := "tries", type := 3, offset := 1, embedded := false, tag := "", pkgPath := "cordwood/call", byteOffset := 8 }, { name := "asked", type := 3, offset := 2, embedded := false, tag := "", pkgPath := "cordwood/call", byteOffset := 16 }] : Array Field).mapM (m := Sem) fun f => do pure (f.offset, ← sizeOf f.type)).run Tryz.prog w = .ok #[(0, 1), (1, 1), (2, 1)] w := by kernel_rfl
theorem ze209 : (Tryz.prog.info? 209).map (·.zero) = some (some (.agg #[.slice none 0 0])) := by kernel_rfl
theorem pl209 (w : World) : ((#[{ name := "l", type := 36, offset := 0, embedded := false, tag := "", pkgPath := "cordwood/epoch", byteOffset := 0 }] : Array Field).mapM (m := Sem) fun f => do pure (f.offset, ← sizeOf f.type)).run Tryz.prog w = .ok #[(0, 1)] w := by kernel_rfl
theorem ze242 : (Tryz.prog.info? 242).map (·.zero) = some (some (.agg #[.slice none 0 0, .int .i64 0, .nilIface])) := by kernel_rfl
theorem pl242 (w : World) : ((#[{ name := "b", type := 22, offset := 0, embedded := false, tag := "", pkgPath := "cordwood/vint", byteOffset := 0 }, { name := "at", type := 3, offset := 1, embedded := false, tag := "", pkgPath := "cordwood/vint", byteOffset := 24 }, { name := "err", type := 27, offset := 2, embedded := false, tag := "", pkgPath := "cordwood/vint", byteOffset := 32 }] : Array Field).mapM (m := Sem) fun f => do pure (f.offset, ← sizeOf f.type)).run Tryz.prog w = .ok #[(0, 1), (1, 1), (2, 1)] w := by kernel_rfl
theorem sz278 : (Tryz.prog.info? 278).map (·.size) = some 1 := by kernel_rfl
theorem ze280 : (Tryz.prog.info? 280).map (·.zero) = some (some (.agg #[.string ByteArray.empty, .map none])) := by kernel_rfl
theorem pl280 (w : World) : ((#[{ name := "name", type := 9, offset := 0, embedded := false, tag := "", pkgPath := "cordwood/store", byteOffset := 0 }, { name := "parts", type := 278, offset := 1, embedded := false, tag := "", pkgPath := "cordwood/store", byteOffset := 16 }] : Array Field).mapM (m := Sem) fun f => do pure (f.offset, ← sizeOf f.type)).run Tryz.prog w = .ok #[(0, 1), (1, 1)] w := by kernel_rfl
theorem en8 (args : Array Value) (w : World) : (callFunc 8 args).run Tryz.prog w = .ok (.enter 8 args) w := by kernel_rfl
theorem en10 (args : Array Value) (w : World) : (callFunc 10 args).run Tryz.prog w = .ok (.enter 10 args) w := by kernel_rfl
theorem en11 (args : Array Value) (w : World) : (callFunc 11 args).run Tryz.prog w = .ok (.enter 11 args) w := by kernel_rfl
theorem en12 (args : Array Value) (w : World) : (callFunc 12 args).run Tryz.prog w = .ok (.enter 12 args) w := by kernel_rfl
theorem en13 (args : Array Value) (w : World) : (callFunc 13 args).run Tryz.prog w = .ok (.enter 13 args) w := by kernel_rfl
theorem en14 (args : Array Value) (w : World) : (callFunc 14 args).run Tryz.prog w = .ok (.enter 14 args) w := by kernel_rfl
theorem en15 (args : Array Value) (w : World) : (callFunc 15 args).run Tryz.prog w = .ok (.enter 15 args) w := by kernel_rfl
theorem en16 (args : Array Value) (w : World) : (callFunc 16 args).run Tryz.prog w = .ok (.enter 16 args) w := by kernel_rfl
theorem en19 (args : Array Value) (w : World) : (callFunc 19 args).run Tryz.prog w = .ok (.enter 19 args) w := by kernel_rfl
theorem en20 (args : Array Value) (w : World) : (callFunc 20 args).run Tryz.prog w = .ok (.enter 20 args) w := by kernel_rfl
theorem en21 (args : Array Value) (w : World) : (callFunc 21 args).run Tryz.prog w = .ok (.enter 21 args) w := by kernel_rfl
theorem en22 (args : Array Value) (w : World) : (callFunc 22 args).run Tryz.prog w = .ok (.enter 22 args) w := by kernel_rfl
theorem en23 (args : Array Value) (w : World) : (callFunc 23 args).run Tryz.prog w = .ok (.enter 23 args) w := by kernel_rfl
theorem en24 (args : Array Value) (w : World) : (callFunc 24 args).run Tryz.prog w = .ok (.enter 24 args) w := by kernel_rfl
theorem en25 (args : Array Value) (w : World) : (callFunc 25 args).run Tryz.prog w = .ok (.enter 25 args) w := by kernel_rfl
theorem en26 (args : Array Value) (w : World) : (callFunc 26 args).run Tryz.prog w = .ok (.enter 26 args) w := by kernel_rfl
theorem en27 (args : Array Value) (w : World) : (callFunc 27 args).run Tryz.prog w = .ok (.enter 27 args) w := by kernel_rfl
theorem en28 (args : Array Value) (w : World) : (callFunc 28 args).run Tryz.prog w = .ok (.enter 28 args) w := by kernel_rfl
theorem en29 (args : Array Value) (w : World) : (callFunc 29 args).run Tryz.prog w = .ok (.enter 29 args) w := by kernel_rfl
theorem en39 (args : Array Value) (w : World) : (callFunc 39 args).run Tryz.prog w = .ok (.enter 39 args) w := by kernel_rfl
theorem en40 (args : Array Value) (w : World) : (callFunc 40 args).run Tryz.prog w = .ok (.enter 40 args) w := by kernel_rfl
theorem en41 (args : Array Value) (w : World) : (callFunc 41 args).run Tryz.prog w = .ok (.enter 41 args) w := by kernel_rfl
theorem en42 (args : Array Value) (w : World) : (callFunc 42 args).run Tryz.prog w = .ok (.enter 42 args) w := by kernel_rfl
theorem en43 (args : Array Value) (w : World) : (callFunc 43 args).run Tryz.prog w = .ok (.enter 43 args) w := by kernel_rfl
theorem en44 (args : Array Value) (w : World) : (callFunc 44 args).run Tryz.prog w = .ok (.enter 44 args) w := by kernel_rfl
theorem en45 (args : Array Value) (w : World) : (callFunc 45 args).run Tryz.prog w = .ok (.enter 45 args) w := by kernel_rfl
theorem en46 (args : Array Value) (w : World) : (callFunc 46 args).run Tryz.prog w = .ok (.enter 46 args) w := by kernel_rfl
theorem en47 (args : Array Value) (w : World) : (callFunc 47 args).run Tryz.prog w = .ok (.enter 47 args) w := by kernel_rfl
theorem en48 (args : Array Value) (w : World) : (callFunc 48 args).run Tryz.prog w = .ok (.enter 48 args) w := by kernel_rfl
theorem en49 (args : Array Value) (w : World) : (callFunc 49 args).run Tryz.prog w = .ok (.enter 49 args) w := by kernel_rfl
theorem en50 (args : Array Value) (w : World) : (callFunc 50 args).run Tryz.prog w = .ok (.enter 50 args) w := by kernel_rfl
theorem en51 (args : Array Value) (w : World) : (callFunc 51 args).run Tryz.prog w = .ok (.enter 51 args) w := by kernel_rfl
theorem en52 (args : Array Value) (w : World) : (callFunc 52 args).run Tryz.prog w = .ok (.enter 52 args) w := by kernel_rfl
theorem en53 (args : Array Value) (w : World) : (callFunc 53 args).run Tryz.prog w = .ok (.enter 53 args) w := by kernel_rfl
theorem en54 (args : Array Value) (w : World) : (callFunc 54 args).run Tryz.prog w = .ok (.enter 54 args) w := by kernel_rfl
theorem en56 (args : Array Value) (w : World) : (callFunc 56 args).run Tryz.prog w = .ok (.enter 56 args) w := by kernel_rfl
theorem en57 (args : Array Value) (w : World) : (callFunc 57 args).run Tryz.prog w = .ok (.enter 57 args) w := by kernel_rfl
theorem en58 (args : Array Value) (w : World) : (callFunc 58 args).run Tryz.prog w = .ok (.enter 58 args) w := by kernel_rfl
theorem en59 (args : Array Value) (w : World) : (callFunc 59 args).run Tryz.prog w = .ok (.enter 59 args) w := by kernel_rfl
theorem en60 (args : Array Value) (w : World) : (callFunc 60 args).run Tryz.prog w = .ok (.enter 60 args) w := by kernel_rfl
theorem en61 (args : Array Value) (w : World) : (callFunc 61 args).run Tryz.prog w = .ok (.enter 61 args) w := by kernel_rfl
theorem en62 (args : Array Value) (w : World) : (callFunc 62 args).run Tryz.prog w = .ok (.enter 62 args) w := by kernel_rfl
theorem en67 (args : Array Value) (w : World) : (callFunc 67 args).run Tryz.prog w = .ok (.enter 67 args) w := by kernel_rfl
theorem en69 (args : Array Value) (w : World) : (callFunc 69 args).run Tryz.prog w = .ok (.enter 69 args) w := by kernel_rfl
theorem en73 (args : Array Value) (w : World) : (callFunc 73 args).run Tryz.prog w = .ok (.enter 73 args) w := by kernel_rfl
theorem en74 (args : Array Value) (w : World) : (callFunc 74 args).run Tryz.prog w = .ok (.enter 74 args) w := by kernel_rfl
theorem en75 (args : Array Value) (w : World) : (callFunc 75 args).run Tryz.prog w = .ok (.enter 75 args) w := by kernel_rfl
theorem en76 (args : Array Value) (w : World) : (callFunc 76 args).run Tryz.prog w = .ok (.enter 76 args) w := by kernel_rfl
theorem en77 (args : Array Value) (w : World) : (callFunc 77 args).run Tryz.prog w = .ok (.enter 77 args) w := by kernel_rfl
theorem en78 (args : Array Value) (w : World) : (callFunc 78 args).run Tryz.prog w = .ok (.enter 78 args) w := by kernel_rfl
theorem en79 (args : Array Value) (w : World) : (callFunc 79 args).run Tryz.prog w = .ok (.enter 79 args) w := by kernel_rfl
theorem en80 (args : Array Value) (w : World) : (callFunc 80 args).run Tryz.prog w = .ok (.enter 80 args) w := by kernel_rfl
theorem en81 (args : Array Value) (w : World) : (callFunc 81 args).run Tryz.prog w = .ok (.enter 81 args) w := by kernel_rfl
theorem en83 (args : Array Value) (w : World) : (callFunc 83 args).run Tryz.prog w = .ok (.enter 83 args) w := by kernel_rfl
theorem en84 (args : Array Value) (w : World) : (callFunc 84 args).run Tryz.prog w = .ok (.enter 84 args) w := by kernel_rfl
theorem en85 (args : Array Value) (w : World) : (callFunc 85 args).run Tryz.prog w = .ok (.enter 85 args) w := by kernel_rfl
theorem en86 (args : Array Value) (w : World) : (callFunc 86 args).run Tryz.prog w = .ok (.enter 86 args) w := by kernel_rfl
theorem en87 (args : Array Value) (w : World) : (callFunc 87 args).run Tryz.prog w = .ok (.enter 87 args) w := by kernel_rfl
theorem en88 (args : Array Value) (w : World) : (callFunc 88 args).run Tryz.prog w = .ok (.enter 88 args) w := by kernel_rfl
theorem en89 (args : Array Value) (w : World) : (callFunc 89 args).run Tryz.prog w = .ok (.enter 89 args) w := by kernel_rfl
theorem en90 (args : Array Value) (w : World) : (callFunc 90 args).run Tryz.prog w = .ok (.enter 90 args) w := by kernel_rfl
theorem en91 (args : Array Value) (w : World) : (callFunc 91 args).run Tryz.prog w = .ok (.enter 91 args) w := by kernel_rfl
theorem en92 (args : Array Value) (w : World) : (callFunc 92 args).run Tryz.prog w = .ok (.enter 92 args) w := by kernel_rfl
theorem en93 (args : Array Value) (w : World) : (callFunc 93 args).run Tryz.prog w = .ok (.enter 93 args) w := by kernel_rfl
theorem en94 (args : Array Value) (w : World) : (callFunc 94 args).run Tryz.prog w = .ok (.enter 94 args) w := by kernel_rfl
theorem en95 (args : Array Value) (w : World) : (callFunc 95 args).run Tryz.prog w = .ok (.enter 95 args) w := by kernel_rfl
theorem en96 (args : Array Value) (w : World) : (callFunc 96 args).run Tryz.prog w = .ok (.enter 96 args) w := by kernel_rfl
theorem en97 (args : Array Value) (w : World) : (callFunc 97 args).run Tryz.prog w = .ok (.enter 97 args) w := by kernel_rfl
theorem en99 (args : Array Value) (w : World) : (callFunc 99 args).run Tryz.prog w = .ok (.enter 99 args) w := by kernel_rfl
theorem en100 (args : Array Value) (w : World) : (callFunc 100 args).run Tryz.prog w = .ok (.enter 100 args) w := by kernel_rfl
theorem en101 (args : Array Value) (w : World) : (callFunc 101 args).run Tryz.prog w = .ok (.enter 101 args) w := by kernel_rfl
theorem en102 (args : Array Value) (w : World) : (callFunc 102 args).run Tryz.prog w = .ok (.enter 102 args) w := by kernel_rfl
theorem en103 (args : Array Value) (w : World) : (callFunc 103 args).run Tryz.prog w = .ok (.enter 103 args) w := by kernel_rfl
theorem en107 (args : Array Value) (w : World) : (callFunc 107 args).run Tryz.prog w = .ok (.enter 107 args) w := by kernel_rfl
theorem en108 (args : Array Value) (w : World) : (callFunc 108 args).run Tryz.prog w = .ok (.enter 108 args) w := by kernel_rfl
theorem en113 (args : Array Value) (w : World) : (callFunc 113 args).run Tryz.prog w = .ok (.enter 113 args) w := by kernel_rfl
theorem en114 (args : Array Value) (w : World) : (callFunc 114 args).run Tryz.prog w = .ok (.enter 114 args) w := by kernel_rfl
theorem en115 (args : Array Value) (w : World) : (callFunc 115 args).run Tryz.prog w = .ok (.enter 115 args) w := by kernel_rfl
theorem en117 (args : Array Value) (w : World) : (callFunc 117 args).run Tryz.prog w = .ok (.enter 117 args) w := by kernel_rfl
theorem en118 (args : Array Value) (w : World) : (callFunc 118 args).run Tryz.prog w = .ok (.enter 118 args) w := by kernel_rfl
theorem en119 (args : Array Value) (w : World) : (callFunc 119 args).run Tryz.prog w = .ok (.enter 119 args) w := by kernel_rfl
theorem en120 (args : Array Value) (w : World) : (callFunc 120 args).run Tryz.prog w = .ok (.enter 120 args) w := by kernel_rfl
theorem en121 (args : Array Value) (w : World) : (callFunc 121 args).run Tryz.prog w = .ok (.enter 121 args) w := by kernel_rfl
theorem en123 (args : Array Value) (w : World) : (callFunc 123 args).run Tryz.prog w = .ok (.enter 123 args) w := by kernel_rfl
theorem en124 (args : Array Value) (w : World) : (callFunc 124 args).run Tryz.prog w = .ok (.enter 124 args) w := by kernel_rfl
theorem en125 (args : Array Value) (w : World) : (callFunc 125 args).run Tryz.prog w = .ok (.enter 125 args) w := by kernel_rfl
theorem en126 (args : Array Value) (w : World) : (callFunc 126 args).run Tryz.prog w = .ok (.enter 126 args) w := by kernel_rfl
theorem en127 (args : Array Value) (w : World) : (callFunc 127 args).run Tryz.prog w = .ok (.enter 127 args) w := by kernel_rfl
theorem en130 (args : Array Value) (w : World) : (callFunc 130 args).run Tryz.prog w = .ok (.enter 130 args) w := by kernel_rfl
theorem en131 (args : Array Value) (w : World) : (callFunc 131 args).run Tryz.prog w = .ok (.enter 131 args) w := by kernel_rfl
theorem en132 (args : Array Value) (w : World) : (callFunc 132 args).run Tryz.prog w = .ok (.enter 132 args) w := by kernel_rfl
theorem en133 (args : Array Value) (w : World) : (callFunc 133 args).run Tryz.prog w = .ok (.enter 133 args) w := by kernel_rfl
theorem en134 (args : Array Value) (w : World) : (callFunc 134 args).run Tryz.prog w = .ok (.enter 134 args) w := by kernel_rfl
theorem en135 (args : Array Value) (w : World) : (callFunc 135 args).run Tryz.prog w = .ok (.enter 135 args) w := by kernel_rfl
theorem en136 (args : Array Value) (w : World) : (callFunc 136 args).run Tryz.prog w = .ok (.enter 136 args) w := by kernel_rfl
theorem en137 (args : Array Value) (w : World) : (callFunc 137 args).run Tryz.prog w = .ok (.enter 137 args) w := by kernel_rfl
theorem en138 (args : Array Value) (w : World) : (callFunc 138 args).run Tryz.prog w = .ok (.enter 138 args) w := by kernel_rfl
theorem en139 (args : Array Value) (w : World) : (callFunc 139 args).run Tryz.prog w = .ok (.enter 139 args) w := by kernel_rfl
theorem en140 (args : Array Value) (w : World) : (callFunc 140 args).run Tryz.prog w = .ok (.enter 140 args) w := by kernel_rfl
theorem en141 (args : Array Value) (w : World) : (callFunc 141 args).run Tryz.prog w = .ok (.enter 141 args) w := by kernel_rfl
theorem en142 (args : Array Value) (w : World) : (callFunc 142 args).run Tryz.prog w = .ok (.enter 142 args) w := by kernel_rfl
theorem en144 (args : Array Value) (w : World) : (callFunc 144 args).run Tryz.prog w = .ok (.enter 144 args) w := by kernel_rfl
theorem en145 (args : Array Value) (w : World) : (callFunc 145 args).run Tryz.prog w = .ok (.enter 145 args) w := by kernel_rfl
theorem en146 (args : Array Value) (w : World) : (callFunc 146 args).run Tryz.prog w = .ok (.enter 146 args) w := by kernel_rfl
theorem en147 (args : Array Value) (w : World) : (callFunc 147 args).run Tryz.prog w = .ok (.enter 147 args) w := by kernel_rfl
theorem en148 (args : Array Value) (w : World) : (callFunc 148 args).run Tryz.prog w = .ok (.enter 148 args) w := by kernel_rfl
theorem en149 (args : Array Value) (w : World) : (callFunc 149 args).run Tryz.prog w = .ok (.enter 149 args) w := by kernel_rfl
theorem en164 (args : Array Value) (w : World) : (callFunc 164 args).run Tryz.prog w = .ok (.enter 164 args) w := by kernel_rfl
theorem en165 (args : Array Value) (w : World) : (callFunc 165 args).run Tryz.prog w = .ok (.enter 165 args) w := by kernel_rfl
theorem en170 (args : Array Value) (w : World) : (callFunc 170 args).run Tryz.prog w = .ok (.enter 170 args) w := by kernel_rfl
theorem en171 (args : Array Value) (w : World) : (callFunc 171 args).run Tryz.prog w = .ok (.enter 171 args) w := by kernel_rfl
theorem en173 (args : Array Value) (w : World) : (callFunc 173 args).run Tryz.prog w = .ok (.enter 173 args) w := by kernel_rfl
theorem en174 (args : Array Value) (w : World) : (callFunc 174 args).run Tryz.prog w = .ok (.enter 174 args) w := by kernel_rfl
theorem en175 (args : Array Value) (w : World) : (callFunc 175 args).run Tryz.prog w = .ok (.enter 175 args) w := by kernel_rfl
theorem en176 (args : Array Value) (w : World) : (callFunc 176 args).run Tryz.prog w = .ok (.enter 176 args) w := by kernel_rfl
theorem en177 (args : Array Value) (w : World) : (callFunc 177 args).run Tryz.prog w = .ok (.enter 177 args) w := by kernel_rfl
theorem en178 (args : Array Value) (w : World) : (callFunc 178 args).run Tryz.prog w = .ok (.enter 178 args) w := by kernel_rfl
theorem en179 (args : Array Value) (w : World) : (callFunc 179 args).run Tryz.prog w = .ok (.enter 179 args) w := by kernel_rfl
theorem en180 (args : Array Value) (w : World) : (callFunc 180 args).run Tryz.prog w = .ok (.enter 180 args) w := by kernel_rfl
theorem en181 (args : Array Value) (w : World) : (callFunc 181 args).run Tryz.prog w = .ok (.enter 181 args) w := by kernel_rfl
theorem en183 (args : Array Value) (w : World) : (callFunc 183 args).run Tryz.prog w = .ok (.enter 183 args) w := by kernel_rfl
theorem en184 (args : Array Value) (w : World) : (callFunc 184 args).run Tryz.prog w = .ok (.enter 184 args) w := by kernel_rfl
theorem en185 (args : Array Value) (w : World) : (callFunc 185 args).run Tryz.prog w = .ok (.enter 185 args) w := by kernel_rfl
theorem en186 (args : Array Value) (w : World) : (callFunc 186 args).run Tryz.prog w = .ok (.enter 186 args) w := by kernel_rfl
theorem en187 (args : Array Value) (w : World) : (callFunc 187 args).run Tryz.prog w = .ok (.enter 187 args) w := by kernel_rfl
theorem en188 (args : Array Value) (w : World) : (callFunc 188 args).run Tryz.prog w = .ok (.enter 188 args) w := by kernel_rfl
theorem en189 (args : Array Value) (w : World) : (callFunc 189 args).run Tryz.prog w = .ok (.enter 189 args) w := by kernel_rfl
theorem en190 (args : Array Value) (w : World) : (callFunc 190 args).run Tryz.prog w = .ok (.enter 190 args) w := by kernel_rfl
theorem en206 (args : Array Value) (w : World) : (callFunc 206 args).run Tryz.prog w = .ok (.enter 206 args) w := by kernel_rfl
theorem en207 (args : Array Value) (w : World) : (callFunc 207 args).run Tryz.prog w = .ok (.enter 207 args) w := by kernel_rfl
theorem en208 (args : Array Value) (w : World) : (callFunc 208 args).run Tryz.prog w = .ok (.enter 208 args) w := by kernel_rfl
theorem en209 (args : Array Value) (w : World) : (callFunc 209 args).run Tryz.prog w = .ok (.enter 209 args) w := by kernel_rfl
theorem en210 (args : Array Value) (w : World) : (callFunc 210 args).run Tryz.prog w = .ok (.enter 210 args) w := by kernel_rfl
theorem en211 (args : Array Value) (w : World) : (callFunc 211 args).run Tryz.prog w = .ok (.enter 211 args) w := by kernel_rfl
theorem en217 (args : Array Value) (w : World) : (callFunc 217 args).run Tryz.prog w = .ok (.enter 217 args) w := by kernel_rfl
theorem zBk : Tryz.prog.follows .mixedOrders = true := by kernel_rfl
end
section
open Go.RowKit
attribute [local irreducible] zAh
variable {g w : World} {L : List HP} {ad : Nat → Addr}
theorem law_of {f : FuncId} {args : Array Value} (h : Calls Tryz.prog f args w (Ret fun v w' => v = .bool true ∧ Mem w w' [])) : Calls Tryz.prog f args w (BoolNew true w) :=
  h.mono fun _ _ ⟨v, h1, h2, h3⟩ => ⟨by rw [h1, h2], h3.below0⟩
theorem wfI {a : Int} (h : (Lit.int .i64 a).wf = true) : zDi a := by
  simp only [Lit.wf, Bool.and_eq_true, decide_eq_true_eq] at h; exact h
theorem Came.bytes {a : Option Addr} {n c : Nat} {l : List UInt8} (h : zEm w (.slice a n c) (zAm l)) (hb : ∀ b, blk (.slice a n c) = some b → b < w.heap.size) : Came w (.slice a n c) (zAm l) ∧ n = l.length := ⟨⟨h, hb⟩, by have := h.len; simpa [zAm] using this.symm⟩
theorem zFn (hs : Mem g w L) (s : ByteArray) : Calls Tryz.prog 89 #[.string s] w (Ret fun v w' => v = .bool (zBq s.data.toList) ∧ Mem g w' L) := hs.callsE (valid_any s w)
theorem newSeq_sl {f : FuncId} {args : Array Value} {l : List Value} (hs : Mem g w L) (h : Calls Tryz.prog f args w (NewSeq w l)) : Calls Tryz.prog f args w (Ret fun v w' => ∃ a c, v = .slice a l.length c ∧ Mem g w' (own (.slice a l.length c) l :: L)) :=
  h.mono fun _ w' ⟨v, h1, h2, h3, h4⟩ => by
    obtain ⟨a, n, c, rfl, hn, hr⟩ := id h2; subst hn; exact ⟨_, h1, a, c, rfl, hs.add (F' := fun b => blk (.slice a l.length c) = some b) ⟨h2, fun _ => Iff.rfl⟩ (fun b hb => (h4 b hb).1) (Keeps.of_below h3 _)⟩
theorem zCj (hs : Mem g w L) {v : Value} {l : List UInt8} (h : Rd g L v (zAm l)) (hl : l.length ≤ 1073741824) : Calls Tryz.prog 49 #[v] w (Ret fun v w' => ∃ a c, v = .slice a (zAm l).length c ∧ Mem g w' (own (.slice a (zAm l).length c) (zAm l) :: L)) :=
  newSeq_sl hs (clone_bytes v _ w (h.seq hs) (zC3 l) (by simpa [zAm] using hl))
theorem Rd.subB {a : Option Addr} {m c lo hi : Nat} {l : List UInt8} (h : Rd g L (.slice a m c) (zAm l)) (h1 : lo ≤ hi) (h2 : hi ≤ m) : Rd g L (subS a c lo hi) (zAm ((l.take hi).drop lo)) := by
  have := h.sub h1 h2
  simpa [zAm] using this
theorem zAv (b : List UInt8) : (zAm b).length = b.length := by simp [zAm]
theorem u8v_inj {a b : UInt8} (h : ((a.toNat : Nat) : Int) = ((b.toNat : Nat) : Int)) : a = b := UInt8.toNat_inj.1 (by omega)
theorem bytesL_at {l : List UInt8} {k : Nat} {x : UInt8} (h : l[k]? = some x) : (zAm l)[k]? = some (.int .u8 (x.toNat : Nat)) := by simp [zAm, u8v, h]
theorem intsL_at {l : List Int} {k : Nat} {x : Int} (h : l[k]? = some x) : (zDw l)[k]? = some (.int .i64 x) := by simp [zDw, h]
theorem intsL_len (l : List Int) : (zDw l).length = l.length := by simp [zDw]
theorem Mem.rdOwn {v : Value} {l : List Value} (hs : Mem g w L) (i : Nat) (hi : L[i]? = some (own v l)) : Rd g L v l := Rd.own i hi
theorem zDh (l m : List UInt8) : zAm (l ++ m) = zAm l ++ zAm m := by simp [zAm]
theorem intsL_app (l m : List Int) : zDw (l ++ m) = zDw l ++ zDw m := by simp [zDw]
end
section
open Go.RowKit
attribute [local irreducible] zAh
variable {g w : World} {L M : List HP} {ad : Nat → Addr} {p : Nat}
section
variable {ρ : Env} {dst : Option Tmp} {ty : TypeId} {pos : String} {aft : Array Edge} {x y : Operand} {u : TypeId}
theorem equal_pr (a b : Pr) : (Op.equalIn 10000 46 (.agg (prL a).toArray) (.agg (prL b).toArray)).run Tryz.prog w = .ok (decide (a = b)) w := by
  have hS : Tryz.prog.underlying 46 = some (.struct (Tryz.prog.fieldsOf 46)) := by kernel_rfl
  have hp : Tryz.prog.stoodInHeld 46 = false := by kernel_rfl
  have u3 := uz3; have a3 := Tryz.isAgg3; have z3 := Tryz.sizeOf3; have u2 := uz2; have a2 := Tryz.isAgg2; have z2 := Tryz.sizeOf2; obtain ⟨a1, a2'⟩ := a; obtain ⟨b1, b2'⟩ := b; simp only [prL]; rw [show (10000 : Nat) = 9999 + 1 from rfl, run_equalIn_agg w 9999 46 _ _ hS hp]; simp only [Program.fieldsOf, uz46]
  go_simp
  by_cases h1 : a1 = b1 <;> by_cases h2 : a2' = b2' <;> simp [h1, h2]
theorem equal_ob (a b : Ob) : (Op.equalIn 10000 66 (.agg (obL a).toArray) (.agg (obL b).toArray)).run Tryz.prog w = .ok (decide (a = b)) w := by
  have hS : Tryz.prog.underlying 66 = some (.struct (Tryz.prog.fieldsOf 66)) := by kernel_rfl
  have hp : Tryz.prog.stoodInHeld 66 = false := by kernel_rfl
  have u3 := uz3; have a3 := Tryz.isAgg3; have z3 := Tryz.sizeOf3; have u2 := uz64; have a2 := Tryz.isAgg64; have z2 := Tryz.sizeOf64; have u9 := uz9; have a9 := Tryz.isAgg9; have z9 := Tryz.sizeOf9; obtain ⟨n1, a1, a2'⟩ := a; obtain ⟨n2, b1, b2'⟩ := b; simp only [obL]; rw [show (10000 : Nat) = 9999 + 1 from rfl, run_equalIn_agg w 9999 66 _ _ hS hp]; simp only [Program.fieldsOf, uz66]
  go_simp
  have hn : (n1.toList = n2.toList) ↔ n1 = n2 := by
    rw [ByteArray.toList_eq, ByteArray.toList_eq]
    constructor
    · intro e
      obtain ⟨⟨x⟩⟩ := n1; obtain ⟨⟨y⟩⟩ := n2; have e : x = y := e; rw [e]
    · intro e; rw [e]
  have hz : ((a2' : Int) = (b2' : Int)) ↔ a2' = b2' := by omega
  simp only [hn, hz]
  by_cases h0 : n1 = n2 <;> by_cases h1 : a1 = b1 <;> by_cases h2 : a2' = b2' <;> simp [h0, h1, h2]
theorem run_nePr {a b : Pr} (hx : ev ρ x = .agg (prL a).toArray) (hy : ev ρ y = .agg (prL b).toArray) : (execOp (ev ρ) ⟨dst, .binOp .neq 46 x y u, ty, pos, aft, none⟩).run Tryz.prog w = .ok (.value (.bool (!decide (a = b)))) w := by
  have hg : (eqGuard .neq 46 x y (.agg (prL a).toArray) (.agg (prL b).toArray)).run Tryz.prog w = .ok () w := run_eqGuard_agg w .neq _ x y _ _ (by kernel_rfl); simp only [execOp, hx, hy, Sem.run_bind, hg, run_neq_struct, equal_pr, Result.andThen_ok, Sem.run_pure]
theorem run_neOb {a b : Ob} (hx : ev ρ x = .agg (obL a).toArray) (hy : ev ρ y = .agg (obL b).toArray) : (execOp (ev ρ) ⟨dst, .binOp .neq 66 x y u, ty, pos, aft, none⟩).run Tryz.prog w = .ok (.value (.bool (!decide (a = b)))) w := by
  have hg : (eqGuard .neq 66 x y (.agg (obL a).toArray) (.agg (obL b).toArray)).run Tryz.prog w = .ok () w := run_eqGuard_agg w .neq _ x y _ _ (by kernel_rfl); simp only [execOp, hx, hy, Sem.run_bind, hg, run_neq_struct, equal_ob, Result.andThen_ok, Sem.run_pure]
end
theorem zEj (l : List Pr) : (l.map prL).length = l.length := by simp
theorem zE9 (l : List Ob) : (l.map obL).length = l.length := by simp
theorem right_sl (hs : Mem g w L) (n : Int) : Calls Tryz.prog 83 #[.int .i64 n] w (Ret fun v w' => v = .bool (zEc n) ∧ Mem g w' L) := by
  refine zAf Tryz.func83 rfl rfl ?_
  skip
  refine zA3 (zA1 ?_); refine zA rfl (zA0 (v := .bool _) rfl) ?_; refine zA6 (zA3 (zA1 ?_)); refine zA rfl (zA2 (v := .int .i64 _) rfl) ?_; refine zA rfl (zCw rfl rfl) ?_; refine zA rfl (zA2 (v := .bool _) rfl) ?_; refine zB0 (t := _) (d := 5) rfl ?_ ?_
  ·
   intro h4; have g4 := of_decide_eq_true h4; refine zAi rfl rfl h4 ?_; refine zA rfl (zA2 (v := .int .i64 _) rfl) ?_; refine zAi rfl rfl h4 ?_; refine zA rfl (zDx rfl rfl) ?_; refine zA rfl (zAk (v := .bool _) rfl h4 rfl) ?_; refine zA rfl (zA0 (v := .bool _) rfl) ?_; refine zA6 ?_; refine zAc ?_; refine zBd (v := .bool _) rfl rfl ?_; exact ⟨_, rfl, zD6 (by rw [Bool.eq_iff_iff]; simp [zEc]; omega), hs⟩
  ·
   intro h4; have g4 := of_decide_eq_false h4; refine zA9 rfl rfl rfl h4 ?_; refine zA9 rfl rfl rfl h4 ?_; refine zA rfl (zAg (v := .bool _) rfl h4 rfl) ?_; refine zA rfl (zA0 (v := .bool _) rfl) ?_; refine zA6 ?_; refine zAc ?_; refine zBd (v := .bool _) rfl rfl ?_; exact ⟨_, rfl, zD6 (by rw [Bool.eq_iff_iff]; simp [zEc]; omega), hs⟩
theorem prRight_sl (hs : Mem g w L) (q : Pr) : Calls Tryz.prog 125 #[.agg (prL q).toArray] w (Ret fun v w' => v = .bool (prOk q) ∧ Mem g w' L) := by
  obtain ⟨a, b⟩ := q; refine zAf Tryz.func125 rfl rfl ?_
  skip
  refine zA3 (zA1 ?_); refine zBh (v := .agg _) hs rfl rfl ?_; clear hs; intro b1 w hs
  try simp only [zzs, zzz] at hs
  refine zA rfl (zA0 (v := .bool _) rfl) ?_; refine zA6 (zA3 (zA1 ?_)); refine zA rfl (zA4 (o' := 0) uz46 rfl sz3 rfl rfl rfl) ?_; refine zA rfl (zA7 uz3 rfl rfl (hs.cellAt 0 rfl rfl)) ?_; refine zA rfl (zCw rfl rfl) ?_; refine zA rfl (zA2 (v := .bool _) rfl) ?_; refine zB0 (t := _) (d := 6) rfl ?_ ?_
  ·
   intro h5; have g5 := of_decide_eq_true h5; refine zAi rfl rfl h5 ?_; refine zA rfl (zA4 (o' := 0) uz46 rfl sz3 rfl rfl rfl) ?_; refine zAi rfl rfl h5 ?_; refine zA rfl (zA7 uz3 rfl rfl (hs.cellAt 0 rfl rfl)) ?_; refine zAi rfl rfl h5 ?_; refine zA rfl (zDx rfl rfl) ?_; refine zA rfl (zAk (v := .bool _) rfl h5 rfl) ?_; refine zA rfl (zA2 (v := .bool _) rfl) ?_; refine zB0 (t := _) (d := 11) rfl ?_ ?_
   ·
    intro h9; have g9 := of_decide_eq_true h9; refine zAi rfl rfl h9 ?_; refine zA rfl (zA4 (o' := 1) uz46 rfl sz2 rfl rfl rfl) ?_; refine zAi rfl rfl h9 ?_; refine zA rfl (zA7 uz2 rfl rfl (hs.cellAt 0 rfl rfl)) ?_; refine zAi rfl rfl h9 ?_; refine zA rfl (zCw rfl rfl) ?_; refine zA rfl (zAk (v := .bool _) rfl h9 rfl) ?_; refine zA rfl (zA2 (v := .bool _) rfl) ?_; refine zB0 (t := _) (d := 16) rfl ?_ ?_
    ·
     intro h14; have g14 := of_decide_eq_true h14; refine zAi rfl rfl h14 ?_; refine zA rfl (zA4 (o' := 1) uz46 rfl sz2 rfl rfl rfl) ?_; refine zAi rfl rfl h14 ?_; refine zA rfl (zA7 uz2 rfl rfl (hs.cellAt 0 rfl rfl)) ?_; refine zAi rfl rfl h14 ?_; refine zA rfl (zDx rfl rfl) ?_; refine zA rfl (zAk (v := .bool _) rfl h14 rfl) ?_; refine zA rfl (zA0 (v := .bool _) rfl) ?_; refine zA6 ?_; refine zAc ?_; refine zBd (v := .bool _) rfl rfl ?_; exact ⟨_, rfl, zD6 (by rw [Bool.eq_iff_iff]; simp [prOk, rightE, zEc]; omega), hs.tail⟩
    ·
     intro h14; have g14 := of_decide_eq_false h14; refine zA9 rfl rfl rfl h14 ?_; refine zA9 rfl rfl rfl h14 ?_; refine zA9 rfl rfl rfl h14 ?_; refine zA rfl (zAg (v := .bool _) rfl h14 rfl) ?_; refine zA rfl (zA0 (v := .bool _) rfl) ?_; refine zA6 ?_; refine zAc ?_; refine zBd (v := .bool _) rfl rfl ?_; exact ⟨_, rfl, zD6 (by rw [Bool.eq_iff_iff]; simp [prOk, rightE, zEc]; omega), hs.tail⟩
   ·
    intro h9; have g9 := of_decide_eq_false h9; refine zA9 rfl rfl rfl h9 ?_; refine zA9 rfl rfl rfl h9 ?_; refine zA9 rfl rfl rfl h9 ?_; refine zA rfl (zAg (v := .bool _) rfl h9 rfl) ?_; refine zA rfl (zA2 (v := .bool _) rfl) ?_; refine zA9 rfl rfl rfl rfl ?_; refine zA9 rfl rfl rfl rfl ?_; refine zA9 rfl rfl rfl rfl ?_; refine zA rfl (zAg (v := .bool _) rfl rfl rfl) ?_; refine zA rfl (zA0 (v := .bool _) rfl) ?_; refine zA6 ?_; refine zAc ?_; refine zBd (v := .bool _) rfl rfl ?_; exact ⟨_, rfl, zD6 (by rw [Bool.eq_iff_iff]; simp [prOk, rightE, zEc]; omega), hs.tail⟩
  ·
   intro h5; have g5 := of_decide_eq_false h5; refine zA9 rfl rfl rfl h5 ?_; refine zA9 rfl rfl rfl h5 ?_; refine zA9 rfl rfl rfl h5 ?_; refine zA rfl (zAg (v := .bool _) rfl h5 rfl) ?_; refine zA rfl (zA2 (v := .bool _) rfl) ?_; refine zA9 rfl rfl rfl rfl ?_; refine zA9 rfl rfl rfl rfl ?_; refine zA9 rfl rfl rfl rfl ?_; refine zA rfl (zAg (v := .bool _) rfl rfl rfl) ?_; refine zA rfl (zA2 (v := .bool _) rfl) ?_; refine zA9 rfl rfl rfl rfl ?_; refine zA9 rfl rfl rfl rfl ?_; refine zA9 rfl rfl rfl rfl ?_; refine zA rfl (zAg (v := .bool _) rfl rfl rfl) ?_; refine zA rfl (zA0 (v := .bool _) rfl) ?_; refine zA6 ?_; refine zAc ?_; refine zBd (v := .bool _) rfl rfl ?_
   exact ⟨_, rfl, zD6 (by rw [Bool.eq_iff_iff]; simp [prOk, rightE, zEc]; omega), hs.tail⟩
theorem prBad_sl (hs : Mem g w L) (q : Pr) : Calls Tryz.prog 124 #[.agg (prL q).toArray] w (Ret fun v w' => v = .bool (!prOk q) ∧ Mem g w' L) := by
  refine zAf Tryz.func124 rfl rfl ?_
  skip
  refine zA3 (zA1 ?_); refine zBh (v := .agg _) hs rfl rfl ?_; clear hs; intro b1 w hs
  try simp only [zzs, zzz] at hs
  refine zA rfl (zA0 (v := .bool _) rfl) ?_; refine zA6 (zA3 (zA1 ?_)); refine zA rfl (zBa hs 0 rfl uz46 sz46 rfl) ?_; refine zAb rfl en125 (prRight_sl hs q) ?_; clear hs; rintro _ w ⟨rfl, hs⟩; refine zA rfl (zBt rfl) ?_; refine zA rfl (zA0 (v := .bool _) rfl) ?_; refine zA6 ?_; refine zAc ?_; refine zBd (v := .bool _) rfl rfl ?_; exact ⟨_, rfl, rfl, hs.tail⟩
theorem idxP_sl (hs : Mem g w L) {a : Option Addr} {n c : Nat} {l : List Pr} (hr : RdK g L 2 (.slice a n c) (l.map prL)) (hn : n = l.length) (hlen : l.length ≤ 1000000) : Calls Tryz.prog 170 #[.slice a n c, .func (.func 124) #[] #[]] w (Ret fun v w' => ∃ r : Int, (0 ≤ r ↔ l.all prOk = false) ∧ v = .int .i64 r ∧ Mem g w' L) := by
  subst hn; refine zAf Tryz.func170 rfl rfl ?_
  skip
  refine zA3 (zA1 ?_); refine zA rfl (zA0 (v := .int .i64 _) rfl) ?_; refine zA6 ?_; refine zA3 ?_; refine zA3 (zA1 ?_); refine zA rfl (zA2 (v := .slice _ _ _) rfl) ?_; refine zA rfl (zAt zDq rfl) ?_; refine zA rfl (zA2 (v := .int .i64 _) rfl) ?_; refine zA6 ?_; refine zAo ?_; refine zBr (X := Nat) [4, 5, 8, 9, 10, 11, 12, 13, 14, 15, 16, 17, 18] (fun k => [(8, .int .i64 (k : Nat))]) (fun k w => k ≤ l.length ∧ (l.take k).all prOk = true ∧ Mem g w L) (fun k => l.length - k) (0) ?_ ?_ ?_
  · exact ⟨rfl, trivial⟩
  · exact ⟨Nat.zero_le _, rfl, hs⟩
  clear hs; rintro x ξ w hI; obtain ⟨hk, hq, hs⟩ := hI; refine zA3 (zA1 ?_); refine zA rfl (zB9 rfl rfl) ?_; refine zA6 ?_; refine zA3 ?_; refine zB rfl ?_ ?_
  ·
   intro h9; have g9 := of_decide_eq_true h9; obtain ⟨y, hy⟩ : ∃ y, l[x]? = some y := ⟨_, List.getElem?_eq_getElem (by omega)⟩; obtain ⟨b1, o1, rfl⟩ := hr.at hs (by rw [zEj]; omega); refine zAd ?_; refine zA3 ?_; refine zAo ?_; refine zA3 (zA1 ?_); refine zA rfl (zA2 (v := .int .i64 _) rfl) ?_; refine zA rfl (zA0 (v := .int .i64 _) rfl) ?_; refine zA6 (zA3 (zA1 ?_)); refine zA rfl (zA2 (v := .func _ _ _) rfl) ?_; refine zA rfl (zA2 (v := .slice _ _ _) rfl) ?_; refine zA rfl (zA2 (v := .int .i64 _) rfl) ?_; refine zA rfl (zAs zDq sz46 rfl rfl rfl (by omega) rfl) ?_; refine zA rfl (zCo (cs := prL y) uz46 sz46 rfl (fun j v hj => hr.cell hs (zE5 hy) hj)) ?_
   refine lw_callv rfl (cap := #[]) en124 rfl (prBad_sl hs y) ?_; clear hs; rintro _ w ⟨rfl, hs⟩; refine zA6 ?_; refine zB rfl ?_ ?_
   ·
    intro h16; refine zA3 (zA1 ?_); refine zA rfl (zA2 (v := .int .i64 _) rfl) ?_; refine zA rfl (zA0 (v := .int .i64 _) rfl) ?_; refine zA6 ?_; refine zAc ?_; refine zBd (v := .int .i64 _) rfl rfl ?_; exact ⟨_, rfl, (x : Nat), ⟨fun _ => Bool.eq_false_iff.2 (fun h => absurd ((List.all_eq_true.1 h y (List.mem_of_getElem? hy)).symm.trans (zEu h16)) (by decide)), fun _ => by omega⟩, rfl, hs⟩
   ·
    intro h16; refine zAd ?_; refine zA1 ?_; refine zA rfl (zAu rfl rfl rfl (inI (by omega) (by omega))) ?_; refine zA rfl (zA2 (v := .int .i64 _) rfl) ?_; refine zA6 ?_; exact ⟨x + 1, by omega, ⟨by omega, by rw [List.take_add_one, hy]; simp [hq, zE0 h16], hs⟩, ⟨rfl, trivial⟩, by repeat (first | exact Out.mix _ _ _ | refine Out.updo rfl ?_ | refine Out.upd rfl ?_ | refine Out.mixIn rfl ?_)⟩
  ·
   intro h9; have g9 := of_decide_eq_false h9; refine zBp rfl ?_; refine zA3 (zA1 ?_); refine zA rfl (zA0 (v := .int .i64 _) rfl) ?_; refine zA6 ?_; refine zAc ?_; refine zBd (v := .int .i64 _) rfl rfl ?_
   have e : x = l.length := by omega
   rw [e, List.take_length] at hq; exact ⟨_, rfl, -1, ⟨fun h => by omega, fun h => by rw [hq] at h; cases h⟩, rfl, hs⟩
theorem conP_sl (hs : Mem g w L) {a : Option Addr} {n c : Nat} {l : List Pr} (hr : RdK g L 2 (.slice a n c) (l.map prL)) (hn : n = l.length) (hlen : l.length ≤ 1000000) : Calls Tryz.prog 123 #[.slice a n c, .func (.func 124) #[] #[]] w (Ret fun v w' => v = .bool (!l.all prOk) ∧ Mem g w' L) := by
  refine zAf Tryz.func123 rfl rfl ?_
  skip
  refine zA3 (zA1 ?_); refine zA rfl (zA0 (v := .bool _) rfl) ?_; refine zA6 (zA3 (zA1 ?_)); refine zA rfl (zA2 (v := .slice _ _ _) rfl) ?_; refine zA rfl (zA2 (v := .func _ _ _) rfl) ?_; refine zAb rfl en170 (idxP_sl hs hr hn hlen) ?_; clear hs; rintro _ w ⟨r, hr2, rfl, hs⟩; refine zA rfl (zCw rfl rfl) ?_; refine zA rfl (zA0 (v := .bool _) rfl) ?_; refine zA6 ?_; refine zAc ?_; refine zBd (v := .bool _) rfl rfl ?_; exact ⟨_, rfl, zD6 (by cases h : l.all prOk; exact decide_eq_true (hr2.2 h); exact decide_eq_false (fun h2 => by rw [h] at hr2; exact absurd (hr2.1 h2) (by decide))), hs⟩
theorem clonePr_sl (hs : Mem g w L) {a : Option Addr} {n c : Nat} {l : List Pr} (hr : RdK g L 2 (.slice a n c) (l.map prL)) (hn : n = l.length) (hlen : l.length ≤ 1000000) : Calls Tryz.prog 86 #[.slice a n c] w (Ret fun v w' => ∃ s : SA, v = .slice s.1 l.length s.2 ∧ Mem g w' (zEy 2 (.slice s.1 l.length s.2) (l.map prL) :: L)) := by
  subst hn
  rcases Nat.eq_zero_or_pos l.length with h0 | h0
  · obtain rfl : l = [] := List.eq_nil_of_length_eq_zero h0
    cases a with
    | none =>
      refine zAf Tryz.func86 rfl rfl ?_
      skip
      refine zA3 (zA1 ?_); refine zA rfl (zA0 (v := .slice _ _ _) rfl) ?_; refine zA6 ?_; refine zA3 ?_; refine zA3 (zA1 ?_); refine zA rfl (zA2 (v := .slice _ _ _) rfl) ?_; refine zA rfl (run_eqsn zDq rfl rfl) ?_; refine zA6 ?_; refine zB6 rfl (rfl) ?_; refine zA3 (zA1 ?_); refine zA rfl (zA0 (v := .slice _ _ _) rfl) ?_; refine zA6 ?_; refine zAc ?_; refine zBd (v := .slice _ _ _) rfl rfl ?_; exact ⟨_, rfl, (none, 0), rfl, hs.addE (rowK_nil 2 _)⟩
    | some a =>
      refine zAf Tryz.func86 rfl rfl ?_
      skip
      refine zA3 (zA1 ?_); refine zA rfl (zA0 (v := .slice _ _ _) rfl) ?_; refine zA6 ?_; refine zA3 ?_; refine zA3 (zA1 ?_); refine zA rfl (zA2 (v := .slice _ _ _) rfl) ?_; refine zA rfl (run_eqsn zDq rfl rfl) ?_; refine zA6 ?_; refine zB4 rfl (rfl) ?_; refine zAd ?_; refine zA3 (zA1 ?_); refine zFk (k := 2) hs rfl zDq in46 ?_; clear hs; intro b5 w hs; refine zA rfl (zA2 (v := .slice _ _ _) rfl) ?_; refine lw_appendRows0 rfl zDq in46 rfl rfl ((hr.cons _ hs).src zDq (by decide) (prL_rows [])) ?_; refine zA rfl (zA0 (v := .slice _ _ _) rfl) ?_; refine zA6 ?_; refine zAc ?_; refine zBd (v := .slice _ _ _) rfl rfl ?_; exact ⟨_, rfl, (some ⟨b5, 0, none⟩, 0), rfl, hs⟩
  · obtain ⟨b1, o1, rfl⟩ := hr.at hs (by rw [zEj]; omega)
    refine zAf Tryz.func86 rfl rfl ?_
    skip
    refine zA3 (zA1 ?_); refine zA rfl (zA0 (v := .slice _ _ _) rfl) ?_; refine zA6 ?_; refine zA3 ?_; refine zA3 (zA1 ?_); refine zA rfl (zA2 (v := .slice _ _ _) rfl) ?_; refine zA rfl (run_eqsn zDq rfl rfl) ?_; refine zA6 ?_; refine zB4 rfl (rfl) ?_; refine zAd ?_; refine zA3 (zA1 ?_); refine zFk (k := 2) hs rfl zDq in46 ?_; clear hs; intro b5 w hs; refine zA rfl (zA2 (v := .slice _ _ _) rfl) ?_; refine lw_appendRows hs rfl 0 rfl (news := l.map prL) (by rw [zEj]; omega) zDq in46 rfl (prL_rows l) rfl rfl ((hr.cons _ hs).src zDq (by decide) (prL_rows l)) (by simp; omega) (by simp; omega) ?_; clear hs; intro a7 c7 w hs
    simp only [zzs, zzz, List.length_nil, zEj, Nat.zero_add, List.nil_append] at hs ⊢; refine zA rfl (zA0 (v := .slice _ _ _) rfl) ?_; refine zA6 ?_; refine zAc ?_; refine zBd (v := .slice _ _ _) rfl rfl ?_; exact ⟨_, rfl, (a7, c7), rfl, hs⟩
end
section
open Go.RowKit
attribute [local irreducible] zAh
variable {g w : World} {L M : List HP} {ad : Nat → Addr} {p : Nat}
theorem RdK.take {k n c hi : Nat} {a : Option Addr} {rows : List (List Value)} (h : RdK g L k (.slice a n c) rows) (h2 : hi ≤ n) : RdK g L k (.slice a hi c) (rows.take hi) := fun w hs => by
  obtain ⟨a', n', c', hv, hn, hnc, h⟩ := h w hs
  cases hv
  refine ⟨_, _, _, rfl, by rw [List.length_take]; omega, by omega, ?_⟩
  rcases h with rfl | ⟨b, off, rfl, hb, h⟩
  · exact .inl (by simp)
  · refine .inr ⟨b, off, rfl, hb, fun q row hq j v hj => h q row ?_ j v hj⟩
    rw [List.getElem?_take] at hq
    split at hq
    · exact hq
    · cases hq
theorem cloneOb_sl (hs : Mem g w L) {a : Option Addr} {n c : Nat} {l : List Ob} (hr : RdK g L 3 (.slice a n c) (l.map obL)) (hn : n = l.length) (hlen : l.length ≤ 1000000) : Calls Tryz.prog 87 #[.slice a n c] w (Ret fun v w' => ∃ s : SA, v = .slice s.1 l.length s.2 ∧ Mem g w' (zEy 3 (.slice s.1 l.length s.2) (l.map obL) :: L)) := by
  subst hn
  rcases Nat.eq_zero_or_pos l.length with h0 | h0
  · obtain rfl : l = [] := List.eq_nil_of_length_eq_zero h0
    cases a with
    | none =>
      refine zAf Tryz.func87 rfl rfl ?_
      skip
      refine zA3 (zA1 ?_); refine zA rfl (zA0 (v := .slice _ _ _) rfl) ?_; refine zA6 ?_; refine zA3 ?_; refine zA3 (zA1 ?_); refine zA rfl (zA2 (v := .slice _ _ _) rfl) ?_; refine zA rfl (run_eqsn zDf rfl rfl) ?_; refine zA6 ?_; refine zB6 rfl (rfl) ?_; refine zA3 (zA1 ?_); refine zA rfl (zA0 (v := .slice _ _ _) rfl) ?_; refine zA6 ?_; refine zAc ?_; refine zBd (v := .slice _ _ _) rfl rfl ?_; exact ⟨_, rfl, (none, 0), rfl, hs.addE (rowK_nil 3 _)⟩
    | some a =>
      refine zAf Tryz.func87 rfl rfl ?_
      skip
      refine zA3 (zA1 ?_); refine zA rfl (zA0 (v := .slice _ _ _) rfl) ?_; refine zA6 ?_; refine zA3 ?_; refine zA3 (zA1 ?_); refine zA rfl (zA2 (v := .slice _ _ _) rfl) ?_; refine zA rfl (run_eqsn zDf rfl rfl) ?_; refine zA6 ?_; refine zB4 rfl (rfl) ?_; refine zAd ?_; refine zA3 (zA1 ?_); refine zFk (k := 3) hs rfl zDf in66 ?_; clear hs; intro b5 w hs; refine zA rfl (zA2 (v := .slice _ _ _) rfl) ?_; refine lw_appendRows0 rfl zDf in66 rfl rfl ((hr.cons _ hs).src zDf (by decide) (obL_rows [])) ?_; refine zA rfl (zA0 (v := .slice _ _ _) rfl) ?_; refine zA6 ?_; refine zAc ?_; refine zBd (v := .slice _ _ _) rfl rfl ?_; exact ⟨_, rfl, (some ⟨b5, 0, none⟩, 0), rfl, hs⟩
  · obtain ⟨b1, o1, rfl⟩ := hr.at hs (by rw [zE9]; omega)
    refine zAf Tryz.func87 rfl rfl ?_
    skip
    refine zA3 (zA1 ?_); refine zA rfl (zA0 (v := .slice _ _ _) rfl) ?_; refine zA6 ?_; refine zA3 ?_; refine zA3 (zA1 ?_); refine zA rfl (zA2 (v := .slice _ _ _) rfl) ?_; refine zA rfl (run_eqsn zDf rfl rfl) ?_; refine zA6 ?_; refine zB4 rfl (rfl) ?_; refine zAd ?_; refine zA3 (zA1 ?_); refine zFk (k := 3) hs rfl zDf in66 ?_; clear hs; intro b5 w hs; refine zA rfl (zA2 (v := .slice _ _ _) rfl) ?_; refine lw_appendRows hs rfl 0 rfl (news := l.map obL) (by rw [zE9]; omega) zDf in66 rfl (obL_rows l) rfl rfl ((hr.cons _ hs).src zDf (by decide) (obL_rows l)) (by simp; omega) (by simp; omega) ?_; clear hs; intro a7 c7 w hs
    simp only [zzs, zzz, List.length_nil, zE9, Nat.zero_add, List.nil_append] at hs ⊢; refine zA rfl (zA0 (v := .slice _ _ _) rfl) ?_; refine zA6 ?_; refine zAc ?_; refine zBd (v := .slice _ _ _) rfl rfl ?_; exact ⟨_, rfl, (a7, c7), rfl, hs⟩
theorem eqPr_sl (hs : Mem g w L) {a b : Option Addr} {n m c d : Nat} {la lb : List Pr} (ha : RdK g L 2 (.slice a n c) (la.map prL)) (hb : RdK g L 2 (.slice b m d) (lb.map prL)) (hn : n = la.length) (hm : m = lb.length) (hlen : la.length ≤ 1000000) :
    Calls Tryz.prog 107 #[.slice a n c, .slice b m d] w (Ret fun v w' => v = .bool (decide (la = lb)) ∧ Mem g w' L) := by
  subst hn hm; refine zAf Tryz.func107 rfl rfl ?_
  skip
  refine zA3 (zA1 ?_); refine zA rfl (zA0 (v := .bool _) rfl) ?_; refine zA6 ?_; refine zA3 ?_; refine zA3 (zA1 ?_); refine zA rfl (zA2 (v := .slice _ _ _) rfl) ?_; refine zA rfl (zAt zDq rfl) ?_; refine zA rfl (zA2 (v := .slice _ _ _) rfl) ?_; refine zA rfl (zAt zDq rfl) ?_; refine zA rfl (zCf rfl rfl) ?_; refine zA6 ?_; refine zB rfl ?_ ?_
  ·
   intro h10; have g10 := zEt h10; refine zA3 (zA1 ?_); refine zA rfl (zA0 (v := .bool _) rfl) ?_; refine zA6 ?_; refine zAc ?_; refine zBd (v := .bool _) rfl rfl ?_; exact ⟨_, rfl, zD6 (by rw [decide_eq_false (fun e => g10 (by rw [e]))]), hs⟩
  ·
   intro h10; have g10 := zEs h10; refine zAd ?_; refine zA3 ?_; refine zA3 (zA1 ?_); refine zA rfl (zA2 (v := .slice _ _ _) rfl) ?_; refine zA rfl (zAt zDq rfl) ?_; refine zA rfl (zA2 (v := .int .i64 _) rfl) ?_; refine zA6 ?_; refine zAo ?_; refine zBr (X := Nat) [4, 5, 13, 14, 15, 16, 17, 18, 19, 20, 21, 22, 23, 24, 25] (fun k => [(13, .int .i64 (k : Nat))]) (fun k w => k ≤ la.length ∧ la.take k = lb.take k ∧ Mem g w L) (fun k => la.length - k) (0) ?_ ?_ ?_
   · exact ⟨rfl, trivial⟩
   · exact ⟨Nat.zero_le _, rfl, hs⟩
   clear hs; rintro x ξ w hI; obtain ⟨hk, hq, hs⟩ := hI; refine zA3 (zA1 ?_); refine zA rfl (zB9 rfl rfl) ?_; refine zA6 ?_; refine zA3 ?_; refine zB rfl ?_ ?_
   ·
    intro h14; have g14 := of_decide_eq_true h14; obtain ⟨xa, hxa⟩ : ∃ xa, la[x]? = some xa := ⟨la[x]'(by omega), List.getElem?_eq_getElem _⟩; obtain ⟨xb, hxb⟩ : ∃ xb, lb[x]? = some xb := ⟨lb[x]'(by omega), List.getElem?_eq_getElem _⟩; obtain ⟨b1, o1, rfl⟩ := ha.at hs (by rw [zEj]; omega); obtain ⟨b2, o2, rfl⟩ := hb.at hs (by rw [zEj]; omega); refine zAd ?_; refine zA3 ?_; refine zAo ?_; refine zA3 (zA1 ?_); refine zA rfl (zA2 (v := .int .i64 _) rfl) ?_; refine zA rfl (zA0 (v := .int .i64 _) rfl) ?_; refine zA6 ?_; refine zA3 ?_; refine zAp zBk hs ?_; intro w tr hK; replace hs := tr _ hs; clear tr; refine zA5 0 rfl rfl (fun w hs => zA2 (v := .slice _ _ _) rfl) hK ?_
    refine zA5 1 rfl rfl (fun w hs => zA2 (v := .int .i64 _) rfl) hK ?_; refine zA5 2 rfl rfl (fun w hs => zAs zDq sz46 rfl rfl rfl (by omega) rfl) hK ?_; refine zA5 3 rfl rfl (fun w hs => zCo (cs := prL xa) uz46 sz46 rfl (fun j v hj => ha.cell hs (zE5 hxa) hj)) hK ?_; refine zA5 4 rfl rfl (fun w hs => zA2 (v := .slice _ _ _) rfl) hK ?_; refine zA5 5 rfl rfl (fun w hs => zA2 (v := .int .i64 _) rfl) hK ?_; refine zA5 6 rfl rfl (fun w hs => zAs zDq sz46 rfl rfl rfl (by omega) rfl) hK ?_; refine zA5 7 rfl rfl (fun w hs => zCo (cs := prL xb) uz46 sz46 rfl (fun j v hj => hb.cell hs (zE5 hxb) hj)) hK ?_
    refine @zF7 _ _ _ _ _ _ _ _ _ _ _ _ _ _ 8 _ rfl (by kernel_rfl) (by kernel_rfl) (by kernel_rfl) rfl (fun w hs => run_nePr (a := xa) (b := xb) rfl rfl) hK ?_; refine zAr (by kernel_rfl) ?_; clear hK; refine zB rfl ?_ ?_
    ·
     intro h24; refine zA3 (zA1 ?_); refine zA rfl (zA0 (v := .bool _) rfl) ?_; refine zA6 ?_; refine zAc ?_; refine zBd (v := .bool _) rfl rfl ?_; exact ⟨_, rfl, zD6 (by rw [decide_eq_false (fun e => by subst e; rw [hxa] at hxb; cases hxb; simp at h24)]), hs⟩
    ·
     intro h24; refine zAd ?_; refine zA1 ?_; refine zA rfl (zAu rfl rfl rfl (inI (by omega) (by omega))) ?_; refine zA rfl (zA2 (v := .int .i64 _) rfl) ?_; refine zA6 ?_; exact ⟨x + 1, by omega, ⟨by omega, by rw [List.take_add_one, List.take_add_one, hxa, hxb, hq, of_decide_eq_true (zE0 h24)], hs⟩, ⟨rfl, trivial⟩, by repeat (first | exact Out.mix _ _ _ | refine Out.updo rfl ?_ | refine Out.upd rfl ?_ | refine Out.mixIn rfl ?_)⟩
   ·
    intro h14; have g14 := of_decide_eq_false h14; refine zBp rfl ?_; refine zA3 (zA1 ?_); refine zA rfl (zA0 (v := .bool _) rfl) ?_; refine zA6 ?_; refine zAc ?_; refine zBd (v := .bool _) rfl rfl ?_
    have h1 : x = la.length := by omega
    rw [h1, List.take_of_length_le (Nat.le_refl _), List.take_of_length_le (by omega)] at hq; exact ⟨_, rfl, zD6 (decide_eq_true hq).symm, hs⟩
theorem eqOb_sl (hs : Mem g w L) {a b : Option Addr} {n m c d : Nat} {la lb : List Ob} (ha : RdK g L 3 (.slice a n c) (la.map obL)) (hb : RdK g L 3 (.slice b m d) (lb.map obL)) (hn : n = la.length) (hm : m = lb.length) (hlen : la.length ≤ 1000000) :
    Calls Tryz.prog 108 #[.slice a n c, .slice b m d] w (Ret fun v w' => v = .bool (decide (la = lb)) ∧ Mem g w' L) := by
  subst hn hm; refine zAf Tryz.func108 rfl rfl ?_
  skip
  refine zA3 (zA1 ?_); refine zA rfl (zA0 (v := .bool _) rfl) ?_; refine zA6 ?_; refine zA3 ?_; refine zA3 (zA1 ?_); refine zA rfl (zA2 (v := .slice _ _ _) rfl) ?_; refine zA rfl (zAt zDf rfl) ?_; refine zA rfl (zA2 (v := .slice _ _ _) rfl) ?_; refine zA rfl (zAt zDf rfl) ?_; refine zA rfl (zCf rfl rfl) ?_; refine zA6 ?_; refine zB rfl ?_ ?_
  ·
   intro h10; have g10 := zEt h10; refine zA3 (zA1 ?_); refine zA rfl (zA0 (v := .bool _) rfl) ?_; refine zA6 ?_; refine zAc ?_; refine zBd (v := .bool _) rfl rfl ?_; exact ⟨_, rfl, zD6 (by rw [decide_eq_false (fun e => g10 (by rw [e]))]), hs⟩
  ·
   intro h10; have g10 := zEs h10; refine zAd ?_; refine zA3 ?_; refine zA3 (zA1 ?_); refine zA rfl (zA2 (v := .slice _ _ _) rfl) ?_; refine zA rfl (zAt zDf rfl) ?_; refine zA rfl (zA2 (v := .int .i64 _) rfl) ?_; refine zA6 ?_; refine zAo ?_; refine zBr (X := Nat) [4, 5, 13, 14, 15, 16, 17, 18, 19, 20, 21, 22, 23, 24, 25] (fun k => [(13, .int .i64 (k : Nat))]) (fun k w => k ≤ la.length ∧ la.take k = lb.take k ∧ Mem g w L) (fun k => la.length - k) (0) ?_ ?_ ?_
   · exact ⟨rfl, trivial⟩
   · exact ⟨Nat.zero_le _, rfl, hs⟩
   clear hs; rintro x ξ w hI; obtain ⟨hk, hq, hs⟩ := hI; refine zA3 (zA1 ?_); refine zA rfl (zB9 rfl rfl) ?_; refine zA6 ?_; refine zA3 ?_; refine zB rfl ?_ ?_
   ·
    intro h14; have g14 := of_decide_eq_true h14; obtain ⟨xa, hxa⟩ : ∃ xa, la[x]? = some xa := ⟨la[x]'(by omega), List.getElem?_eq_getElem _⟩; obtain ⟨xb, hxb⟩ : ∃ xb, lb[x]? = some xb := ⟨lb[x]'(by omega), List.getElem?_eq_getElem _⟩; obtain ⟨b1, o1, rfl⟩ := ha.at hs (by rw [zE9]; omega); obtain ⟨b2, o2, rfl⟩ := hb.at hs (by rw [zE9]; omega); refine zAd ?_; refine zA3 ?_; refine zAo ?_; refine zA3 (zA1 ?_); refine zA rfl (zA2 (v := .int .i64 _) rfl) ?_; refine zA rfl (zA0 (v := .int .i64 _) rfl) ?_; refine zA6 ?_; refine zA3 ?_; refine zAp zBk hs ?_; intro w tr hK; replace hs := tr _ hs; clear tr; refine zA5 0 rfl rfl (fun w hs => zA2 (v := .slice _ _ _) rfl) hK ?_
    refine zA5 1 rfl rfl (fun w hs => zA2 (v := .int .i64 _) rfl) hK ?_; refine zA5 2 rfl rfl (fun w hs => zAs zDf sz66 rfl rfl rfl (by omega) rfl) hK ?_; refine zA5 3 rfl rfl (fun w hs => zCo (cs := obL xa) uz66 sz66 rfl (fun j v hj => ha.cell hs (zFg hxa) hj)) hK ?_; refine zA5 4 rfl rfl (fun w hs => zA2 (v := .slice _ _ _) rfl) hK ?_; refine zA5 5 rfl rfl (fun w hs => zA2 (v := .int .i64 _) rfl) hK ?_; refine zA5 6 rfl rfl (fun w hs => zAs zDf sz66 rfl rfl rfl (by omega) rfl) hK ?_; refine zA5 7 rfl rfl (fun w hs => zCo (cs := obL xb) uz66 sz66 rfl (fun j v hj => hb.cell hs (zFg hxb) hj)) hK ?_
    refine @zF7 _ _ _ _ _ _ _ _ _ _ _ _ _ _ 8 _ rfl (by kernel_rfl) (by kernel_rfl) (by kernel_rfl) rfl (fun w hs => run_neOb (a := xa) (b := xb) rfl rfl) hK ?_; refine zAr (by kernel_rfl) ?_; clear hK; refine zB rfl ?_ ?_
    ·
     intro h24; refine zA3 (zA1 ?_); refine zA rfl (zA0 (v := .bool _) rfl) ?_; refine zA6 ?_; refine zAc ?_; refine zBd (v := .bool _) rfl rfl ?_; exact ⟨_, rfl, zD6 (by rw [decide_eq_false (fun e => by subst e; rw [hxa] at hxb; cases hxb; simp at h24)]), hs⟩
    ·
     intro h24; refine zAd ?_; refine zA1 ?_; refine zA rfl (zAu rfl rfl rfl (inI (by omega) (by omega))) ?_; refine zA rfl (zA2 (v := .int .i64 _) rfl) ?_; refine zA6 ?_; exact ⟨x + 1, by omega, ⟨by omega, by rw [List.take_add_one, List.take_add_one, hxa, hxb, hq, of_decide_eq_true (zE0 h24)], hs⟩, ⟨rfl, trivial⟩, by repeat (first | exact Out.mix _ _ _ | refine Out.updo rfl ?_ | refine Out.upd rfl ?_ | refine Out.mixIn rfl ?_)⟩
   ·
    intro h14; have g14 := of_decide_eq_false h14; refine zBp rfl ?_; refine zA3 (zA1 ?_); refine zA rfl (zA0 (v := .bool _) rfl) ?_; refine zA6 ?_; refine zAc ?_; refine zBd (v := .bool _) rfl rfl ?_
    have h1 : x = la.length := by omega
    rw [h1, List.take_of_length_le (Nat.le_refl _), List.take_of_length_le (by omega)] at hq; exact ⟨_, rfl, zD6 (decide_eq_true hq).symm, hs⟩
theorem sameNm_sl {o : Ob} {bo : Nat} {T : TypeId} (hs : Mem g w (cells bo (obL o) T :: L)) (y : Ob) : Calls Tryz.prog 127 #[.agg (obL y).toArray, .pointer (some ⟨bo, 0, none⟩)] w (Ret fun v w' => v = .bool (decide (y.1 = o.1)) ∧ Mem g w' (cells bo (obL o) T :: L)) := by
  refine zAf Tryz.func127 rfl rfl ?_
  skip
  refine zA3 (zA1 ?_); refine zBh (v := .agg _) hs rfl rfl ?_; clear hs; intro b2 w hs
  try simp only [zzs, zzz] at hs
  refine zA rfl (zA0 (v := .bool _) rfl) ?_; refine zA6 (zA3 (zA1 ?_)); refine zA rfl (zA4 (o' := 0) uz66 rfl sz9 rfl rfl rfl) ?_; refine zA rfl (zA7 uz9 rfl rfl (hs.cellAt 0 rfl rfl)) ?_; refine zA rfl (zA4 (o' := 0) uz66 rfl sz9 rfl rfl rfl) ?_; refine zA rfl (zA7 uz9 rfl rfl (hs.cellAt 1 rfl rfl)) ?_; refine zA rfl (run_eqs rfl rfl) ?_; refine zA rfl (zA0 (v := .bool _) rfl) ?_; refine zA6 ?_; refine zAc ?_; refine zBd (v := .bool _) rfl rfl ?_; exact ⟨_, rfl, rfl, hs.tail⟩
theorem idxO_sl {o : Ob} {bo : Nat} {T : TypeId} (hs : Mem g w (cells bo (obL o) T :: L)) {a : Option Addr} {n c : Nat} {l : List Ob} (hr : RdK g (cells bo (obL o) T :: L) 3 (.slice a n c) (l.map obL)) (hn : n = l.length) (hlen : l.length ≤ 1000000) : Calls Tryz.prog 171 #[.slice a n c, .func (.func 127) #[] #[.pointer (some ⟨bo, 0, none⟩)]] w (Ret fun v w' => ∃ r : Int, (0 ≤ r ↔ (l.any fun y => decide (y.1 = o.1)) = true) ∧ v = .int .i64 r ∧ Mem g w' (cells bo (obL o) T :: L)) := by
  subst hn; refine zAf Tryz.func171 rfl rfl ?_
  skip
  refine zA3 (zA1 ?_); refine zA rfl (zA0 (v := .int .i64 _) rfl) ?_; refine zA6 ?_; refine zA3 ?_; refine zA3 (zA1 ?_); refine zA rfl (zA2 (v := .slice _ _ _) rfl) ?_; refine zA rfl (zAt zDf rfl) ?_; refine zA rfl (zA2 (v := .int .i64 _) rfl) ?_; refine zA6 ?_; refine zAo ?_; refine zBr (X := Nat) [4, 5, 8, 9, 10, 11, 12, 13, 14, 15, 16, 17, 18] (fun k => [(8, .int .i64 (k : Nat))]) (fun k w => k ≤ l.length ∧ ((l.take k).any fun y => decide (y.1 = o.1)) = false ∧ Mem g w (cells bo (obL o) T :: L)) (fun k => l.length - k) (0) ?_ ?_ ?_
  · exact ⟨rfl, trivial⟩
  · exact ⟨Nat.zero_le _, rfl, hs⟩
  clear hs; rintro x ξ w hI; obtain ⟨hk, hq, hs⟩ := hI; refine zA3 (zA1 ?_); refine zA rfl (zB9 rfl rfl) ?_; refine zA6 ?_; refine zA3 ?_; refine zB rfl ?_ ?_
  ·
   intro h9; have g9 := of_decide_eq_true h9; obtain ⟨y, hy⟩ : ∃ y, l[x]? = some y := ⟨_, List.getElem?_eq_getElem (by omega)⟩; obtain ⟨b1, o1, rfl⟩ := hr.at hs (by rw [zE9]; omega); refine zAd ?_; refine zA3 ?_; refine zAo ?_; refine zA3 (zA1 ?_); refine zA rfl (zA2 (v := .int .i64 _) rfl) ?_; refine zA rfl (zA0 (v := .int .i64 _) rfl) ?_; refine zA6 (zA3 (zA1 ?_)); refine zA rfl (zA2 (v := .func _ _ _) rfl) ?_; refine zA rfl (zA2 (v := .slice _ _ _) rfl) ?_; refine zA rfl (zA2 (v := .int .i64 _) rfl) ?_; refine zA rfl (zAs zDf sz66 rfl rfl rfl (by omega) rfl) ?_; refine zA rfl (zCo (cs := obL y) uz66 sz66 rfl (fun j v hj => hr.cell hs (zFg hy) hj)) ?_
   refine lw_callv rfl (cap := #[.pointer (some ⟨bo, 0, none⟩)]) en127 rfl (sameNm_sl hs y) ?_; clear hs; rintro _ w ⟨rfl, hs⟩; refine zA6 ?_; refine zB rfl ?_ ?_
   ·
    intro h16; refine zA3 (zA1 ?_); refine zA rfl (zA2 (v := .int .i64 _) rfl) ?_; refine zA rfl (zA0 (v := .int .i64 _) rfl) ?_; refine zA6 ?_; refine zAc ?_; refine zBd (v := .int .i64 _) rfl rfl ?_; exact ⟨_, rfl, (x : Nat), ⟨fun _ => List.any_eq_true.2 ⟨y, List.mem_of_getElem? hy, h16⟩, fun _ => by omega⟩, rfl, hs⟩
   ·
    intro h16; refine zAd ?_; refine zA1 ?_; refine zA rfl (zAu rfl rfl rfl (inI (by omega) (by omega))) ?_; refine zA rfl (zA2 (v := .int .i64 _) rfl) ?_; refine zA6 ?_; exact ⟨x + 1, by omega, ⟨by omega, by rw [List.take_add_one, hy, List.any_append, hq]; simpa using h16, hs⟩, ⟨rfl, trivial⟩, by repeat (first | exact Out.mix _ _ _ | refine Out.updo rfl ?_ | refine Out.upd rfl ?_ | refine Out.mixIn rfl ?_)⟩
  ·
   intro h9; have g9 := of_decide_eq_false h9; refine zBp rfl ?_; refine zA3 (zA1 ?_); refine zA rfl (zA0 (v := .int .i64 _) rfl) ?_; refine zA6 ?_; refine zAc ?_; refine zBd (v := .int .i64 _) rfl rfl ?_
   have e : x = l.length := by omega
   rw [e, List.take_length] at hq; exact ⟨_, rfl, -1, ⟨fun h => by omega, fun h => by rw [hq] at h; cases h⟩, rfl, hs⟩
theorem conO_sl {o : Ob} {bo : Nat} {T : TypeId} (hs : Mem g w (cells bo (obL o) T :: L)) {a : Option Addr} {n c : Nat} {l : List Ob} (hr : RdK g (cells bo (obL o) T :: L) 3 (.slice a n c) (l.map obL)) (hn : n = l.length) (hlen : l.length ≤ 1000000) : Calls Tryz.prog 126 #[.slice a n c, .func (.func 127) #[] #[.pointer (some ⟨bo, 0, none⟩)]] w (Ret fun v w' => v = .bool (l.any fun y => decide (y.1 = o.1)) ∧ Mem g w' (cells bo (obL o) T :: L)) := by
  refine zAf Tryz.func126 rfl rfl ?_
  skip
  refine zA3 (zA1 ?_); refine zA rfl (zA0 (v := .bool _) rfl) ?_; refine zA6 (zA3 (zA1 ?_)); refine zA rfl (zA2 (v := .slice _ _ _) rfl) ?_; refine zA rfl (zA2 (v := .func _ _ _) rfl) ?_; refine zAb rfl en171 (idxO_sl hs hr hn hlen) ?_; clear hs; rintro _ w ⟨r, hr2, rfl, hs⟩; refine zA rfl (zCw rfl rfl) ?_; refine zA rfl (zA0 (v := .bool _) rfl) ?_; refine zA6 ?_; refine zAc ?_; refine zBd (v := .bool _) rfl rfl ?_; exact ⟨_, rfl, zD6 (by cases h : (l.any fun y => decide (y.1 = o.1)); exact decide_eq_false (fun h2 => by rw [h] at hr2; exact absurd (hr2.1 h2) (by decide)); exact decide_eq_true (hr2.2 h)), hs⟩
end
section
open Go.RowKit
attribute [local irreducible] zAh
variable {g w : World} {L M : List HP} {ad : Nat → Addr} {p : Nat}
def viewCodes : List Nat := [103, 104, 105, 106, 112, 113]
abbrev ErrV (ad : Nat → Addr) (g : World) : Prop := Errs viewCodes ad g.heap.size g
theorem risAt_eq {l : List Pr} {i : Nat} {a b : Pr} (ha : l[i - 1]? = some a) (hb : l[i]? = some b) : risAt l i = (decide (a.1 < b.1) && decide (a.2 < b.2)) := by
  simp only [risAt, List.getD_eq_getElem?_getD, ha, hb, Option.getD_some]
theorem epNew_sl (hE : ErrV ad g) (hs : Mem g w L) {a : Option Addr} {n c : Nat} {l : List Pr} (hr : RdK g L 2 (.slice a n c) (l.map prL)) (hn : n = l.length) : Calls Tryz.prog 84 #[.slice a n c] w (Ret fun v w' => ∃ q, v = .tuple #[.pointer q, zAh ad (epF l)] ∧ Mem g w' L) := by
  subst hn; refine zAf Tryz.func84 rfl rfl ?_
  skip
  refine zA3 (zA1 ?_); refine zA rfl (zA0 (v := .pointer none) rfl) ?_; refine zA rfl (zA0 (v := .nilIface) rfl) ?_; refine zA6 ?_; refine zA3 ?_; refine zA3 (zA1 ?_); refine zA rfl (zA2 (v := .slice _ _ _) rfl) ?_; refine zA rfl (zAt zDq rfl) ?_; refine zA rfl (zBl rfl rfl) ?_; refine zA6 ?_; refine zB rfl ?_ ?_
  ·
   intro h7; have g7 := of_decide_eq_true h7; refine zA3 ?_; refine zAp zBk hs ?_; intro w tr hK; replace hs := tr _ hs; clear tr; refine zA5 0 rfl rfl (fun w hs => zA7 zCe rfl rfl (hE.cellW hs 104 (by decide) rfl)) hK ?_; refine zA5 1 rfl rfl (fun w hs => zA0 (v := .pointer none) rfl) hK ?_; refine zA5 2 rfl rfl (fun w hs => zA0 (v := zAh ad _) rfl) hK ?_; refine zAr (by kernel_rfl) ?_; clear hK; refine zAc ?_; refine zDz (v := .pointer none) (v2 := zAh ad _) rfl rfl rfl ?_; exact ⟨_, rfl, none, by rw [epF, if_pos (by omega)], hs⟩
  ·
   intro h7; have g7 := of_decide_eq_false h7; refine zAd ?_; refine zA3 ?_; refine zA3 (zA1 ?_); refine zA rfl (zA2 (v := .slice _ _ _) rfl) ?_; refine zAb rfl en123 (conP_sl hs hr rfl (by omega)) ?_; clear hs; rintro _ w ⟨rfl, hs⟩; refine zA6 ?_; refine zB rfl ?_ ?_
   ·
    intro h10; refine zA3 ?_; refine zAp zBk hs ?_; intro w tr hK; replace hs := tr _ hs; clear tr; refine zA5 0 rfl rfl (fun w hs => zA7 zCe rfl rfl (hE.cellW hs 105 (by decide) rfl)) hK ?_; refine zA5 1 rfl rfl (fun w hs => zA0 (v := .pointer none) rfl) hK ?_; refine zA5 2 rfl rfl (fun w hs => zA0 (v := zAh ad _) rfl) hK ?_; refine zAr (by kernel_rfl) ?_; clear hK; refine zAc ?_; refine zDz (v := .pointer none) (v2 := zAh ad _) rfl rfl rfl ?_; exact ⟨_, rfl, none, by rw [epF, if_neg (by omega), if_pos (zEu h10)], hs⟩
   ·
    intro h10; refine zAd ?_; refine zA3 ?_; refine zA3 (zA1 ?_); refine zA rfl (zA0 (v := .int .i64 _) rfl) ?_; refine zA6 ?_; refine zAo ?_; refine zBr (X := Nat) [2, 3, 4, 12, 13, 14, 15, 16, 17, 18, 19, 20, 21, 22, 23, 24, 25, 26, 27, 28, 29, 30, 31, 32, 33, 34, 35, 36, 37, 38, 39, 40, 41, 42, 43, 44] (fun k => [(4, .int .i64 (k : Nat))]) (fun k w => 1 ≤ k ∧ (∀ i, 1 ≤ i → i < k → i < l.length → risAt l i = true) ∧ Mem g w L) (fun k => l.length - k) (1) ?_ ?_ ?_
    · exact ⟨rfl, trivial⟩
    · exact ⟨Nat.le_refl _, fun i h1 h2 => by omega, hs⟩
    clear hs; rintro x ξ w hI; obtain ⟨hk, hq, hs⟩ := hI; refine zA3 ?_; refine zA3 (zA1 ?_); refine zA rfl (zA2 (v := .int .i64 _) rfl) ?_; refine zA rfl (zA2 (v := .slice _ _ _) rfl) ?_; refine zA rfl (zAt zDq rfl) ?_; refine zA rfl (zB9 rfl rfl) ?_; refine zA6 ?_; refine zB rfl ?_ ?_
    ·
     intro h15; have g15 := of_decide_eq_true h15; obtain ⟨y, hy⟩ : ∃ y, l[x]? = some y := ⟨_, List.getElem?_eq_getElem (by omega)⟩; obtain ⟨y0, hy0⟩ : ∃ y, l[x - 1]? = some y := ⟨_, List.getElem?_eq_getElem (by omega)⟩; obtain ⟨b1, o1, rfl⟩ := hr.at hs (by rw [zEj]; omega); have hra := risAt_eq hy0 hy; refine zAd ?_; refine zA3 ?_; refine zAo ?_; refine zA3 ?_; refine zAp zBk hs ?_; intro w tr hK; replace hs := tr _ hs; clear tr; refine zA5 0 rfl rfl (fun w hs => zA2 (v := .slice _ _ _) rfl) hK ?_; refine zA5 1 rfl rfl (fun w hs => zA2 (v := .int .i64 _) rfl) hK ?_; refine zA5 2 rfl rfl (fun w hs => zAs zDq sz46 rfl rfl rfl (by omega) rfl) hK ?_
     refine zA5 3 rfl rfl (fun w hs => zA4 uz46 rfl sz3 rfl rfl rfl) hK ?_; refine zA5 4 rfl rfl (fun w hs => zA7 uz3 rfl rfl (hr.cell hs (zE5 hy) (j := 0) rfl)) hK ?_; refine zA5 5 rfl rfl (fun w hs => zA2 (v := .slice _ _ _) rfl) hK ?_; refine zA5 6 rfl rfl (fun w hs => zA2 (v := .int .i64 _) rfl) hK ?_; refine zA5 7 rfl rfl (fun w hs => zC8 rfl rfl (c := ((x - 1 : Nat) : Int)) (by omega) (inI (by omega) (by omega))) hK ?_; refine zA5 8 rfl rfl (fun w hs => zAs zDq sz46 rfl rfl rfl (by omega) rfl) hK ?_; refine zA5 9 rfl rfl (fun w hs => zA4 uz46 rfl sz3 rfl rfl rfl) hK ?_; refine zA5 10 rfl rfl (fun w hs => zA7 uz3 rfl rfl (hr.cell hs (zE5 hy0) (j := 0) rfl)) hK ?_
     refine zA5 11 rfl rfl (fun w hs => zDx rfl rfl) hK ?_; refine zA5 12 rfl rfl (fun w hs => zA2 (v := .bool _) rfl) hK ?_; refine zGb (t := _) (d := 30) rfl ?_ ?_
     ·
      intro h29; have g29 := of_decide_eq_true h29; refine zAj 13 rfl rfl rfl rfl h29 hK ?_; refine zAj 14 rfl rfl rfl rfl h29 hK ?_; refine zAj 15 rfl rfl rfl rfl h29 hK ?_; refine zAj 16 rfl rfl rfl rfl h29 hK ?_; refine zAj 17 rfl rfl rfl rfl h29 hK ?_; refine zAj 18 rfl rfl rfl rfl h29 hK ?_; refine zAj 19 rfl rfl rfl rfl h29 hK ?_; refine zAj 20 rfl rfl rfl rfl h29 hK ?_; refine zAj 21 rfl rfl rfl rfl h29 hK ?_; refine zAj 22 rfl rfl rfl rfl h29 hK ?_; refine zAj 23 rfl rfl rfl rfl h29 hK ?_; refine zAj 24 rfl rfl rfl rfl h29 hK ?_; refine zA5 25 rfl rfl (fun w hs => zAk (v := .bool _) rfl h29 rfl) hK ?_; refine zAr (by kernel_rfl) ?_; clear hK; refine zB6 rfl rfl ?_; refine zA3 ?_
      refine zAp zBk hs ?_; intro w tr hK; replace hs := tr _ hs; clear tr; refine zA5 0 rfl rfl (fun w hs => zA7 zCe rfl rfl (hE.cellW hs 103 (by decide) rfl)) hK ?_; refine zA5 1 rfl rfl (fun w hs => zA0 (v := .pointer none) rfl) hK ?_; refine zA5 2 rfl rfl (fun w hs => zA0 (v := zAh ad _) rfl) hK ?_; refine zAr (by kernel_rfl) ?_; clear hK; refine zAc ?_; refine zDz (v := .pointer none) (v2 := zAh ad _) rfl rfl rfl ?_; exact ⟨_, rfl, none, by rw [epF, if_neg (by omega), if_neg (by rw [zE0 h10]; decide), if_pos (ris_no hk (by omega) (by rw [hra]; simp; omega))], hs⟩
     ·
      intro h29; have g29 := of_decide_eq_false h29; refine zAq 13 rfl rfl rfl rfl h29 (fun w hs => zA2 (v := .slice _ _ _) rfl) hK ?_; refine zAq 14 rfl rfl rfl rfl h29 (fun w hs => zA2 (v := .int .i64 _) rfl) hK ?_; refine zAq 15 rfl rfl rfl rfl h29 (fun w hs => zAs zDq sz46 rfl rfl rfl (by omega) rfl) hK ?_; refine zAq 16 rfl rfl rfl rfl h29 (fun w hs => zA4 uz46 rfl sz2 rfl rfl rfl) hK ?_; refine zAq 17 rfl rfl rfl rfl h29 (fun w hs => zA7 uz2 rfl rfl (hr.cell hs (zE5 hy) (j := 1) rfl)) hK ?_; refine zAq 18 rfl rfl rfl rfl h29 (fun w hs => zA2 (v := .slice _ _ _) rfl) hK ?_; refine zAq 19 rfl rfl rfl rfl h29 (fun w hs => zA2 (v := .int .i64 _) rfl) hK ?_
      refine zAq 20 rfl rfl rfl rfl h29 (fun w hs => zC8 rfl rfl (c := ((x - 1 : Nat) : Int)) (by omega) (inI (by omega) (by omega))) hK ?_; refine zAq 21 rfl rfl rfl rfl h29 (fun w hs => zAs zDq sz46 rfl rfl rfl (by omega) rfl) hK ?_; refine zAq 22 rfl rfl rfl rfl h29 (fun w hs => zA4 uz46 rfl sz2 rfl rfl rfl) hK ?_; refine zAq 23 rfl rfl rfl rfl h29 (fun w hs => zA7 uz2 rfl rfl (hr.cell hs (zE5 hy0) (j := 1) rfl)) hK ?_; refine zAq 24 rfl rfl rfl rfl h29 (fun w hs => zDx rfl rfl) hK ?_; refine zA5 25 rfl rfl (fun w hs => zAg (v := .bool _) rfl h29 rfl) hK ?_; refine zAr (by kernel_rfl) ?_; clear hK; refine zB rfl ?_ ?_
      ·
       intro h42; have g42 := of_decide_eq_true h42; refine zA3 ?_; refine zAp zBk hs ?_; intro w tr hK; replace hs := tr _ hs; clear tr; refine zA5 0 rfl rfl (fun w hs => zA7 zCe rfl rfl (hE.cellW hs 103 (by decide) rfl)) hK ?_; refine zA5 1 rfl rfl (fun w hs => zA0 (v := .pointer none) rfl) hK ?_; refine zA5 2 rfl rfl (fun w hs => zA0 (v := zAh ad _) rfl) hK ?_; refine zAr (by kernel_rfl) ?_; clear hK; refine zAc ?_; refine zDz (v := .pointer none) (v2 := zAh ad _) rfl rfl rfl ?_; exact ⟨_, rfl, none, by rw [epF, if_neg (by omega), if_neg (by rw [zE0 h10]; decide), if_pos (ris_no hk (by omega) (by rw [hra]; simp; omega))], hs⟩
      ·
       intro h42; have g42 := of_decide_eq_false h42; refine zAd ?_; refine zA1 ?_; refine zA rfl (zA2 (v := .int .i64 _) rfl) ?_; refine zA rfl (zAu rfl rfl rfl (inI (by omega) (by omega))) ?_; refine zA rfl (zA0 (v := .int .i64 _) rfl) ?_; refine zA6 ?_; exact ⟨x + 1, by omega, ⟨by omega, (fun i h1 h2 h3 => by rcases Nat.lt_or_ge i x with h | h; exact hq i h1 h h3; obtain rfl : i = x := (by omega); rw [hra]; simp; omega), hs⟩, ⟨rfl, trivial⟩, by repeat (first | exact Out.mix _ _ _ | refine Out.updo rfl ?_ | refine Out.upd rfl ?_ | refine Out.mixIn rfl ?_)⟩
    ·
     intro h15; have g15 := of_decide_eq_false h15; refine zBp rfl ?_; refine zA3 (zA1 ?_); refine zA rfl (zA2 (v := .slice _ _ _) rfl) ?_; refine zAb rfl en86 (clonePr_sl hs hr rfl (by omega)) ?_; clear hs; rintro _ w ⟨s, rfl, hs⟩; refine zA rfl (zC0 ([.slice s.1 l.length s.2]) uz209 ze209 pl209 rfl (by simp [Value.cells]) rfl rfl) ?_; refine zBh (v := .agg _) hs rfl rfl ?_; clear hs; intro b48 w hs
     try simp only [zzs, zzz] at hs
     refine zA rfl (zA0 (v := .pointer (some _)) rfl) ?_; refine zA rfl (zA0 (v := .nilIface) rfl) ?_; refine zA6 ?_; refine zAc ?_; refine zDz (v := .pointer (some _)) (v2 := .nilIface) rfl rfl rfl ?_; exact ⟨_, rfl, some ⟨b48, 0, none⟩, by rw [epF, if_neg (by omega), if_neg (by rw [zE0 h10]; decide), if_neg (by rw [ris_iff.2 (fun i h1 h2 => hq i h1 (by omega) h2)]; decide), zAz], hs.tail.tail⟩
theorem dup_no {l : List Ob} {x : Nat} {y : Ob} (hy : l[x]? = some y) (h : ((l.take x).any fun u => decide (u.1 = y.1)) = true) : ¬ (l.map Prod.fst).Nodup := fun hn => by
  obtain ⟨u, hu, he⟩ := List.any_eq_true.1 h; have he : u.1 = y.1 := of_decide_eq_true he; obtain ⟨j, hj⟩ := List.mem_iff_getElem?.1 hu; obtain ⟨hjl, _⟩ := List.getElem?_eq_some_iff.1 hj; rw [List.length_take] at hjl; rw [List.getElem?_take_of_lt (by omega)] at hj
  have h1 : (l.map Prod.fst)[j]? = some y.1 := by rw [List.getElem?_map, hj, Option.map_some, he]
  have h2 : (l.map Prod.fst)[x]? = some y.1 := by rw [List.getElem?_map, hy, Option.map_some]
  obtain ⟨g1, e1⟩ := List.getElem?_eq_some_iff.1 h1; obtain ⟨g2, e2⟩ := List.getElem?_eq_some_iff.1 h2; have := (List.getElem_inj hn).1 (e1.trans e2.symm)
  omega
theorem nodup_next {l : List Ob} {x : Nat} {y : Ob} (hy : l[x]? = some y) (hq : ((l.take x).map Prod.fst).Nodup) (h : ((l.take x).any fun u => decide (u.1 = y.1)) = false) : ((l.take (x + 1)).map Prod.fst).Nodup := by
  rw [List.take_add_one, hy, List.map_append, List.nodup_append]; refine ⟨hq, by simp, fun a ha b hb e => ?_⟩; simp only [Option.toList, List.map_cons, List.map_nil, List.mem_cons, List.not_mem_nil, or_false] at hb; obtain ⟨u, hu, rfl⟩ := List.mem_map.1 ha; have := List.any_eq_false.1 h u hu; simp only [decide_eq_true_eq] at this; exact this (e.trans hb)
theorem objects_sl (hE : ErrV ad g) (hs : Mem g w L) {a : Option Addr} {n c : Nat} {l : List Ob} (hr : RdK g L 3 (.slice a n c) (l.map obL)) (hn : n = l.length) (hlen : l.length ≤ 1000000) : Calls Tryz.prog 85 #[.slice a n c] w (Ret (RetF ad (obF l) g L)) := by
  subst hn; refine zAf Tryz.func85 rfl rfl ?_
  skip
  refine zA3 (zA1 ?_); refine zA rfl (zA0 (v := .nilIface) rfl) ?_; refine zA6 ?_; refine zA3 ?_; refine zA3 (zA1 ?_); refine zA rfl (zA2 (v := .slice _ _ _) rfl) ?_; refine zA rfl (zAt zDf rfl) ?_; refine zA rfl (zB9 rfl rfl) ?_; refine zA rfl (zA2 (v := .bool _) rfl) ?_; refine zB0 (t := _) (d := 10) rfl ?_ ?_
  ·
   intro h9; have g9 := of_decide_eq_true h9; refine zA9 rfl rfl rfl h9 ?_; refine zA9 rfl rfl rfl h9 ?_; refine zA9 rfl rfl rfl h9 ?_; refine zA rfl (zAk (v := .bool _) rfl h9 rfl) ?_; refine zA6 ?_; refine zB6 rfl rfl ?_; refine zA3 (zA1 ?_); refine zA rfl (zA7 zCe rfl rfl (hE.cellW hs 104 (by decide) rfl)) ?_; refine zA rfl (zA0 (v := zAh ad _) rfl) ?_; refine zA6 ?_; refine zAc ?_; refine zBd (v := zAh ad _) rfl rfl ?_; rw [obF, if_pos (by omega)]; exact ⟨_, rfl, RetF.bare hs⟩
  ·
   intro h9; have g9 := of_decide_eq_false h9; refine zAi rfl rfl h9 ?_; refine zA rfl (zA2 (v := .slice _ _ _) rfl) ?_; refine zAi rfl rfl h9 ?_; refine zA rfl (zAt zDf rfl) ?_; refine zAi rfl rfl h9 ?_; refine zA rfl (zBl rfl rfl) ?_; refine zA rfl (zAg (v := .bool _) rfl h9 rfl) ?_; refine zA6 ?_; refine zB rfl ?_ ?_
   ·
    intro h13; have g13 := of_decide_eq_true h13; refine zA3 (zA1 ?_); refine zA rfl (zA7 zCe rfl rfl (hE.cellW hs 104 (by decide) rfl)) ?_; refine zA rfl (zA0 (v := zAh ad _) rfl) ?_; refine zA6 ?_; refine zAc ?_; refine zBd (v := zAh ad _) rfl rfl ?_; rw [obF, if_pos (by omega)]; exact ⟨_, rfl, RetF.bare hs⟩
   ·
    intro h13; have g13 := of_decide_eq_false h13; refine zAd ?_; refine zA3 ?_; refine zA3 (zA1 ?_); refine zA rfl (zA2 (v := .slice _ _ _) rfl) ?_; refine zA rfl (zAt zDf rfl) ?_; refine zA rfl (zA2 (v := .int .i64 _) rfl) ?_; refine zA6 ?_; refine zAo ?_; refine zBr (X := Nat) [2, 3, 4, 18, 19, 20, 21, 22, 23, 24, 25, 26, 27, 28, 29, 30, 31, 32, 33, 34, 35, 36, 37, 38, 39, 40, 41, 42, 43, 44, 45] (fun k => [(18, .int .i64 (k : Nat))]) (fun k w => k ≤ l.length ∧ (∀ j, j < k → ∀ u, l[j]? = some u → zCv u = 0) ∧ Mem g w L) (fun k => l.length - k) (0) ?_ ?_ ?_
    · exact ⟨rfl, trivial⟩
    · exact ⟨Nat.zero_le _, fun j h => by omega, hs⟩
    clear hs; rintro x ξ w hI; obtain ⟨hk, hq, hs⟩ := hI; refine zA3 (zA1 ?_); refine zA rfl (zB9 rfl rfl) ?_; refine zA6 ?_; refine zA3 ?_; refine zB rfl ?_ ?_
    ·
     intro h19; have g19 := of_decide_eq_true h19; obtain ⟨y, hy⟩ : ∃ y, l[x]? = some y := ⟨_, List.getElem?_eq_getElem (by omega)⟩; obtain ⟨b1, o1, rfl⟩ := hr.at hs (by rw [zE9]; omega); refine zAd ?_; refine zA3 ?_; refine zAo ?_; refine zA3 (zA1 ?_); refine zA rfl (zA2 (v := .int .i64 _) rfl) ?_; refine zA rfl (zAs zDf sz66 rfl rfl rfl (by omega) rfl) ?_; refine zA rfl (zCo (cs := obL y) uz66 sz66 rfl (fun j v hj => hr.cell hs (zFg hy) hj)) ?_; refine zBn hs rfl ze66 ?_; clear hs; intro b4 w hs
     try simp only [zzs, zzz] at hs
     refine zA rfl (zA0 (v := .int .i64 _) rfl) ?_; refine zAn hs 0 rfl rfl rfl sz66 rfl rfl ?_; clear hs; intro w hs
     try simp only [zzs, zzz] at hs
     refine zA6 ?_; refine zA3 ?_; refine zA3 (zA1 ?_); refine zA rfl (zA4 (o' := 0) uz66 rfl sz9 rfl rfl rfl) ?_; refine zA rfl (zA7 uz9 rfl rfl (hs.cellAt 0 rfl rfl)) ?_; refine zAb rfl en89 (zFn hs y.1) ?_; clear hs; rintro _ w ⟨rfl, hs⟩; refine zA rfl (zBt rfl) ?_; refine zA6 ?_; refine zB rfl ?_ ?_
     ·
      intro h25; replace h25 := zEu h25; refine zA3 (zA1 ?_); refine zA rfl (zA2 (v := .int .i64 _) rfl) ?_; refine zA rfl (zA7 zCe rfl rfl (hE.cellW hs 106 (by decide) rfl)) ?_; refine zA rfl (zC0 [.int .i64 (x : Nat), zAh ad 106] uz114 ze114 pl114 rfl (at_one _ _) rfl rfl) ?_; refine zBh (v := .agg _) hs rfl rfl ?_; clear hs; intro b30 w hs
      try simp only [zzs, zzz] at hs
      refine zA rfl (run_mkI uz112 rfl) ?_; refine zA rfl (zA0 (v := .iface _ (.pointer (some _))) rfl) ?_; refine zA6 ?_; refine zAc ?_; refine zBd (v := .iface _ (.pointer (some _))) rfl rfl ?_
      have e : zCv y = 106 := by simp [zCv, h25]
      rw [obF_bad (by omega) hy (by rw [e]; decide) hq, e]; exact ⟨_, rfl, b30, rfl, hs.arr [0] 2 (by decide)⟩
     ·
      intro h25; replace h25 := zE0 h25; refine zAd ?_; refine zA3 (zA1 ?_); refine zA rfl (zA4 (o' := 1) uz66 rfl sz3 rfl rfl rfl) ?_; refine zA rfl (zA7 uz3 rfl rfl (hs.cellAt 0 rfl rfl)) ?_; refine zA rfl (zB9 rfl rfl) ?_; refine zA rfl (zA2 (v := .bool _) rfl) ?_; refine zB0 (t := _) (d := 35) rfl ?_ ?_
      ·
       intro h34; have g34 := of_decide_eq_true h34; refine zA9 rfl rfl rfl h34 ?_; refine zA9 rfl rfl rfl h34 ?_; refine zA9 rfl rfl rfl h34 ?_; refine zA rfl (zAk (v := .bool _) rfl h34 rfl) ?_; refine zA6 ?_; refine zB6 rfl rfl ?_; refine zA3 (zA1 ?_); refine zA rfl (zA2 (v := .int .i64 _) rfl) ?_; refine zA rfl (zA7 zCe rfl rfl (hE.cellW hs 105 (by decide) rfl)) ?_; refine zA rfl (zC0 [.int .i64 (x : Nat), zAh ad 105] uz114 ze114 pl114 rfl (at_one _ _) rfl rfl) ?_; refine zBh (v := .agg _) hs rfl rfl ?_; clear hs; intro b43 w hs
       try simp only [zzs, zzz] at hs
       refine zA rfl (run_mkI uz112 rfl) ?_; refine zA rfl (zA0 (v := .iface _ (.pointer (some _))) rfl) ?_; refine zA6 ?_; refine zAc ?_; refine zBd (v := .iface _ (.pointer (some _))) rfl rfl ?_
       have e : zCv y = 105 := by simp [zCv, h25]; omega
       rw [obF_bad (by omega) hy (by rw [e]; decide) hq, e]; exact ⟨_, rfl, b43, rfl, hs.arr [0] 2 (by decide)⟩
      ·
       intro h34; have g34 := of_decide_eq_false h34; refine zAi rfl rfl h34 ?_; refine zA rfl (zA4 (o' := 1) uz66 rfl sz3 rfl rfl rfl) ?_; refine zAi rfl rfl h34 ?_; refine zA rfl (zA7 uz3 rfl rfl (hs.cellAt 0 rfl rfl)) ?_; refine zAi rfl rfl h34 ?_; refine zA rfl (zBl rfl rfl) ?_; refine zA rfl (zAg (v := .bool _) rfl h34 rfl) ?_; refine zA6 ?_; refine zB rfl ?_ ?_
       ·
        intro h38; have g38 := of_decide_eq_true h38; refine zA3 (zA1 ?_); refine zA rfl (zA2 (v := .int .i64 _) rfl) ?_; refine zA rfl (zA7 zCe rfl rfl (hE.cellW hs 105 (by decide) rfl)) ?_; refine zA rfl (zC0 [.int .i64 (x : Nat), zAh ad 105] uz114 ze114 pl114 rfl (at_one _ _) rfl rfl) ?_; refine zBh (v := .agg _) hs rfl rfl ?_; clear hs; intro b43 w hs
        try simp only [zzs, zzz] at hs
        refine zA rfl (run_mkI uz112 rfl) ?_; refine zA rfl (zA0 (v := .iface _ (.pointer (some _))) rfl) ?_; refine zA6 ?_; refine zAc ?_; refine zBd (v := .iface _ (.pointer (some _))) rfl rfl ?_
        have e : zCv y = 105 := by simp [zCv, h25]; omega
        rw [obF_bad (by omega) hy (by rw [e]; decide) hq, e]; exact ⟨_, rfl, b43, rfl, hs.arr [0] 2 (by decide)⟩
       ·
        intro h38; have g38 := of_decide_eq_false h38; refine zAd ?_; refine zA1 ?_; refine zA rfl (zAu rfl rfl rfl (inI (by omega) (by omega))) ?_; refine zA rfl (zA2 (v := .int .i64 _) rfl) ?_; refine zA6 ?_; exact ⟨x + 1, by omega, ⟨by omega, (fun j hj u hu => by rcases Nat.lt_or_ge j x with h | h; exact hq j h u hu; obtain rfl : j = x := (by omega); rw [hy] at hu; cases hu; simp only [zCv, h25, Bool.true_eq_false, if_false]; rw [if_neg (by omega)]), hs.tail⟩, ⟨rfl, trivial⟩, by repeat (first | exact Out.mix _ _ _ | refine Out.updo rfl ?_ | refine Out.upd rfl ?_ | refine Out.mixIn rfl ?_)⟩
    ·
     intro h19; have g19 := of_decide_eq_false h19
     have hall : ∀ (j : Nat) (u : Ob), l[j]? = some u → zCv u = 0 := fun j u hu => hq j (by have := (List.getElem?_eq_some_iff.1 hu).1; omega) u hu
     refine zBp rfl ?_; refine zA3 ?_; refine zA3 (zA1 ?_); refine zA rfl (zA2 (v := .slice _ _ _) rfl) ?_; refine zA rfl (zAt zDf rfl) ?_; refine zA rfl (zA2 (v := .int .i64 _) rfl) ?_; refine zA6 ?_; refine zAo ?_; refine zBr (X := Nat) [2, 5, 6, 48, 49, 50, 51, 52, 53, 54, 55, 56, 57, 58, 59] (fun k => [(48, .int .i64 (k : Nat))]) (fun k w => k ≤ l.length ∧ ((l.take k).map Prod.fst).Nodup ∧ Mem g w L) (fun k => l.length - k) (0) ?_ ?_ ?_
     · exact ⟨rfl, trivial⟩
     · exact ⟨Nat.zero_le _, by simp, hs⟩
     clear hs; rintro x ξ w hI; obtain ⟨hk1, hq1, hs⟩ := hI; refine zA3 (zA1 ?_); refine zA rfl (zB9 rfl rfl) ?_; refine zA6 ?_; refine zA3 ?_; refine zB rfl ?_ ?_
     ·
      intro h49; have g49 := of_decide_eq_true h49; have hs0 := hs; obtain ⟨y, hy⟩ : ∃ y, l[x]? = some y := ⟨_, List.getElem?_eq_getElem (by omega)⟩; obtain ⟨b1, o1, rfl⟩ := hr.at hs (by rw [zE9]; omega); refine zAd ?_; refine zA3 ?_; refine zAo ?_; refine zA3 (zA1 ?_); refine zA rfl (zA2 (v := .int .i64 _) rfl) ?_; refine zA rfl (zAs zDf sz66 rfl rfl rfl (by omega) rfl) ?_; refine zA rfl (zCo (cs := obL y) uz66 sz66 rfl (fun j v hj => hr.cell hs (zFg hy) hj)) ?_; refine zBn hs rfl ze66 ?_; clear hs; intro b6 w hs
      try simp only [zzs, zzz] at hs
      refine zA rfl (zA0 (v := .int .i64 _) rfl) ?_; refine zAn hs 0 rfl rfl rfl sz66 rfl rfl ?_; clear hs; intro w hs
      try simp only [zzs, zzz] at hs
      refine zA6 (zA3 (zA1 ?_)); refine zA rfl (zA2 (v := .slice _ _ _) rfl) ?_; refine zA rfl (zA2 (v := .int .i64 _) rfl) ?_; refine zA rfl (run_sliceToK zDf sz66 rfl rfl (hi := x) rfl (by have := hr.cap hs0; omega) (.inr ⟨b1, o1, rfl⟩)) ?_; refine zA rfl (zC) ?_; refine zAb rfl en126 (conO_sl (l := l.take x) (o := y) hs (by rw [List.map_take]; exact hr.cons.take (by omega)) (by rw [List.length_take]; omega) (by rw [List.length_take]; omega)) ?_; clear hs; rintro _ w ⟨rfl, hs⟩; refine zA6 ?_; refine zB rfl ?_ ?_
      ·
       intro h57; refine zA3 (zA1 ?_); refine zA rfl (zA7 zCe rfl rfl (hE.cellW hs 103 (by decide) rfl)) ?_; refine zA rfl (zA0 (v := zAh ad _) rfl) ?_; refine zA6 ?_; refine zAc ?_; refine zBd (v := zAh ad _) rfl rfl ?_; rw [obF_fine (by omega) hall, if_neg (dup_no hy h57)]; exact ⟨_, rfl, RetF.bare hs.tail⟩
      ·
       intro h57; refine zAd ?_; refine zA1 ?_; refine zA rfl (zAu rfl rfl rfl (inI (by omega) (by omega))) ?_; refine zA rfl (zA2 (v := .int .i64 _) rfl) ?_; refine zA6 ?_; exact ⟨x + 1, by omega, ⟨by omega, nodup_next hy hq1 h57, hs.tail⟩, ⟨rfl, trivial⟩, by repeat (first | exact Out.mix _ _ _ | refine Out.updo rfl ?_ | refine Out.upd rfl ?_ | refine Out.mixIn rfl ?_)⟩
     ·
      intro h49; have g49 := of_decide_eq_false h49; refine zBp rfl ?_; refine zA3 (zA1 ?_); refine zA rfl (zA0 (v := .nilIface) rfl) ?_; refine zA6 ?_; refine zAc ?_; refine zBd (v := .nilIface) rfl rfl ?_
      have e : x = l.length := by omega
      rw [e, List.take_length] at hq1; rw [obF_fine (by omega) hall, if_pos hq1]; exact ⟨_, rfl, by rw [← zAz ad]; exact RetF.bare hs⟩
end
section
open Go.RowKit
attribute [local irreducible] zAh
variable {g w : World} {L M : List HP} {ad : Nat → Addr}
def textsL (l : List ByteArray) : List Value := l.map Value.string
end
section
open Go.RowKit
attribute [local irreducible] zAh
variable {g w : World} {L M : List HP} {ad : Nat → Addr} {p : Nat}
theorem pr_get {l : List Pr} {i : Nat} {y : Pr} (h : l[i]? = some y) : l.getD i (0, 0) = y := by rw [List.getD_eq_getElem?_getD, h]; rfl
theorem epF_len {l : List Pr} (h : epF l = 0) : l.length ≤ 256 := by
  unfold epF at h
  split at h
  · cases h
  · omega
theorem validM_sl (hE : ErrV ad g) (hs : Mem g w L) {x : Mf} {e o : SA} (hm : MfR g L x e o) (hob : x.obs.length ≤ 1000000) : Calls Tryz.prog 45 #[.agg (mfL x e o).toArray] w (Ret (RetF ad (mfF x) g L)) := by
  obtain ⟨ea, ec⟩ := e; refine zAf Tryz.func45 rfl rfl ?_
  skip
  refine zA3 (zA1 ?_); refine zBh (v := .agg _) hs rfl rfl ?_; clear hs; intro b1 w hs
  try simp only [zzs, zzz] at hs
  refine zA rfl (zA0 (v := .nilIface) rfl) ?_; refine zA6 (zA3 (zA1 ?_)); refine zA rfl (zA0 (v := .func _ _ _) rfl) ?_; refine zA6 ?_; refine zA3 ?_; refine zA3 (zA1 ?_); refine zA rfl (zA4 (o' := 0) zCb rfl sz3 rfl rfl rfl) ?_; refine zA rfl (zA7 uz3 rfl rfl (hs.cellAt 0 rfl rfl)) ?_; refine zA rfl (zB9 rfl rfl) ?_; refine zA rfl (zA2 (v := .bool _) rfl) ?_; refine zB0 (t := _) (d := 10) rfl ?_ ?_
  ·
   intro h9; have g9 := of_decide_eq_true h9; refine zA9 rfl rfl rfl h9 ?_; refine zA9 rfl rfl rfl h9 ?_; refine zA9 rfl rfl rfl h9 ?_; refine zA rfl (zAk (v := .bool _) rfl h9 rfl) ?_; refine zA rfl (zA2 (v := .bool _) rfl) ?_; refine zA9 rfl rfl rfl rfl ?_; refine zA9 rfl rfl rfl rfl ?_; refine zA9 rfl rfl rfl rfl ?_; refine zA9 rfl rfl rfl rfl ?_; refine zA9 rfl rfl rfl rfl ?_; refine zA rfl (zAk (v := .bool _) rfl rfl rfl) ?_; refine zA rfl (zA2 (v := .bool _) rfl) ?_; refine zA9 rfl rfl rfl rfl ?_; refine zA9 rfl rfl rfl rfl ?_; refine zA9 rfl rfl rfl rfl ?_; refine zA9 rfl rfl rfl rfl ?_; refine zA9 rfl rfl rfl rfl ?_; refine zA rfl (zAk (v := .bool _) rfl rfl rfl) ?_
   refine zA rfl (zA2 (v := .bool _) rfl) ?_; refine zA9 rfl rfl rfl rfl ?_; refine zA9 rfl rfl rfl rfl ?_; refine zA9 rfl rfl rfl rfl ?_; refine zA rfl (zAk (v := .bool _) rfl rfl rfl) ?_; refine zA rfl (zA2 (v := .bool _) rfl) ?_; refine zA9 rfl rfl rfl rfl ?_; refine zA9 rfl rfl rfl rfl ?_; refine zA9 rfl rfl rfl rfl ?_; refine zA rfl (zAk (v := .bool _) rfl rfl rfl) ?_; refine zA rfl (zA2 (v := .bool _) rfl) ?_; refine zA9 rfl rfl rfl rfl ?_; refine zA9 rfl rfl rfl rfl ?_; refine zA9 rfl rfl rfl rfl ?_; refine zA9 rfl rfl rfl rfl ?_; refine zA9 rfl rfl rfl rfl ?_; refine zA rfl (zAk (v := .bool _) rfl rfl rfl) ?_; refine zA6 ?_; refine zB6 rfl rfl ?_; refine zA3 (zA1 ?_)
   refine zA rfl (zA7 zCe rfl rfl (hE.cellW hs 105 (by decide) rfl)) ?_; refine zA rfl (zA0 (v := zAh ad _) rfl) ?_; refine zA6 ?_; refine zAc ?_; refine zBd (v := zAh ad _) rfl rfl ?_
   have hr : zBe x = true := by simp [zBe, *]
   rw [mfF, if_pos hr]; exact ⟨_, rfl, RetF.bare hs.tail⟩
  ·
   intro h9; have g9 := of_decide_eq_false h9; refine zAi rfl rfl h9 ?_; refine zA rfl (zA4 (o' := 0) zCb rfl sz3 rfl rfl rfl) ?_; refine zAi rfl rfl h9 ?_; refine zA rfl (zA7 uz3 rfl rfl (hs.cellAt 0 rfl rfl)) ?_; refine zAi rfl rfl h9 ?_; refine zA rfl (zBl rfl rfl) ?_; refine zA rfl (zAg (v := .bool _) rfl h9 rfl) ?_; refine zA rfl (zA2 (v := .bool _) rfl) ?_; refine zB0 (t := _) (d := 15) rfl ?_ ?_
   ·
    intro h13; have g13 := of_decide_eq_true h13; refine zA9 rfl rfl rfl h13 ?_; refine zA9 rfl rfl rfl h13 ?_; refine zA9 rfl rfl rfl h13 ?_; refine zA9 rfl rfl rfl h13 ?_; refine zA9 rfl rfl rfl h13 ?_; refine zA rfl (zAk (v := .bool _) rfl h13 rfl) ?_; refine zA rfl (zA2 (v := .bool _) rfl) ?_; refine zA9 rfl rfl rfl rfl ?_; refine zA9 rfl rfl rfl rfl ?_; refine zA9 rfl rfl rfl rfl ?_; refine zA9 rfl rfl rfl rfl ?_; refine zA9 rfl rfl rfl rfl ?_; refine zA rfl (zAk (v := .bool _) rfl rfl rfl) ?_; refine zA rfl (zA2 (v := .bool _) rfl) ?_; refine zA9 rfl rfl rfl rfl ?_; refine zA9 rfl rfl rfl rfl ?_; refine zA9 rfl rfl rfl rfl ?_; refine zA rfl (zAk (v := .bool _) rfl rfl rfl) ?_
    refine zA rfl (zA2 (v := .bool _) rfl) ?_; refine zA9 rfl rfl rfl rfl ?_; refine zA9 rfl rfl rfl rfl ?_; refine zA9 rfl rfl rfl rfl ?_; refine zA rfl (zAk (v := .bool _) rfl rfl rfl) ?_; refine zA rfl (zA2 (v := .bool _) rfl) ?_; refine zA9 rfl rfl rfl rfl ?_; refine zA9 rfl rfl rfl rfl ?_; refine zA9 rfl rfl rfl rfl ?_; refine zA9 rfl rfl rfl rfl ?_; refine zA9 rfl rfl rfl rfl ?_; refine zA rfl (zAk (v := .bool _) rfl rfl rfl) ?_; refine zA6 ?_; refine zB6 rfl rfl ?_; refine zA3 (zA1 ?_); refine zA rfl (zA7 zCe rfl rfl (hE.cellW hs 105 (by decide) rfl)) ?_; refine zA rfl (zA0 (v := zAh ad _) rfl) ?_; refine zA6 ?_; refine zAc ?_; refine zBd (v := zAh ad _) rfl rfl ?_
    have hr : zBe x = true := by simp [zBe, *]
    rw [mfF, if_pos hr]; exact ⟨_, rfl, RetF.bare hs.tail⟩
   ·
    intro h13; have g13 := of_decide_eq_false h13; refine zAi rfl rfl h13 ?_; refine zA rfl (zA2 (v := .func _ _ _) rfl) ?_; refine zAi rfl rfl h13 ?_; refine zA rfl (zA4 (o' := 1) zCb rfl sz2 rfl rfl rfl) ?_; refine zAi rfl rfl h13 ?_; refine zA rfl (zA7 uz2 rfl rfl (hs.cellAt 0 rfl rfl)) ?_; refine zAi rfl rfl h13 ?_; refine lw_callv rfl (cap := #[]) en83 rfl (right_sl hs x.base) ?_; clear hs; rintro _ w ⟨rfl, hs⟩; refine zAi rfl rfl h13 ?_; refine zA rfl (zBt rfl) ?_; refine zA rfl (zAg (v := .bool _) rfl h13 rfl) ?_; refine zA rfl (zA2 (v := .bool _) rfl) ?_; refine zB0 (t := _) (d := 22) rfl ?_ ?_
    ·
     intro h19; replace h19 := zEu h19; refine zA9 rfl rfl rfl (zCd h19) ?_; refine zA9 rfl rfl rfl (zCd h19) ?_; refine zA9 rfl rfl rfl (zCd h19) ?_; refine zA9 rfl rfl rfl (zCd h19) ?_; refine zA9 rfl rfl rfl (zCd h19) ?_; refine zA rfl (zAk (v := .bool _) rfl (zCd h19) rfl) ?_; refine zA rfl (zA2 (v := .bool _) rfl) ?_; refine zA9 rfl rfl rfl rfl ?_; refine zA9 rfl rfl rfl rfl ?_; refine zA9 rfl rfl rfl rfl ?_; refine zA rfl (zAk (v := .bool _) rfl rfl rfl) ?_; refine zA rfl (zA2 (v := .bool _) rfl) ?_; refine zA9 rfl rfl rfl rfl ?_; refine zA9 rfl rfl rfl rfl ?_; refine zA9 rfl rfl rfl rfl ?_; refine zA rfl (zAk (v := .bool _) rfl rfl rfl) ?_
     refine zA rfl (zA2 (v := .bool _) rfl) ?_; refine zA9 rfl rfl rfl rfl ?_; refine zA9 rfl rfl rfl rfl ?_; refine zA9 rfl rfl rfl rfl ?_; refine zA9 rfl rfl rfl rfl ?_; refine zA9 rfl rfl rfl rfl ?_; refine zA rfl (zAk (v := .bool _) rfl rfl rfl) ?_; refine zA6 ?_; refine zB6 rfl rfl ?_; refine zA3 (zA1 ?_); refine zA rfl (zA7 zCe rfl rfl (hE.cellW hs 105 (by decide) rfl)) ?_; refine zA rfl (zA0 (v := zAh ad _) rfl) ?_; refine zA6 ?_; refine zAc ?_; refine zBd (v := zAh ad _) rfl rfl ?_
     have hr : zBe x = true := by simp [zBe, *]
     rw [mfF, if_pos hr]; exact ⟨_, rfl, RetF.bare hs.tail⟩
    ·
     intro h19; replace h19 := zE0 h19; refine zAi rfl rfl (zBj h19) ?_; refine zA rfl (zA2 (v := .func _ _ _) rfl) ?_; refine zAi rfl rfl (zBj h19) ?_; refine zA rfl (zA4 (o' := 2) zCb rfl sz2 rfl rfl rfl) ?_; refine zAi rfl rfl (zBj h19) ?_; refine zA rfl (zA7 uz2 rfl rfl (hs.cellAt 0 rfl rfl)) ?_; refine zAi rfl rfl (zBj h19) ?_; refine lw_callv rfl (cap := #[]) en83 rfl (right_sl hs x.fin) ?_; clear hs; rintro _ w ⟨rfl, hs⟩; refine zAi rfl rfl (zBj h19) ?_; refine zA rfl (zBt rfl) ?_; refine zA rfl (zAg (v := .bool _) rfl (zBj h19) rfl) ?_; refine zA rfl (zA2 (v := .bool _) rfl) ?_; refine zB0 (t := _) (d := 29) rfl ?_ ?_
     ·
      intro h26; replace h26 := zEu h26; refine zA9 rfl rfl rfl (zCd h26) ?_; refine zA9 rfl rfl rfl (zCd h26) ?_; refine zA9 rfl rfl rfl (zCd h26) ?_; refine zA rfl (zAk (v := .bool _) rfl (zCd h26) rfl) ?_; refine zA rfl (zA2 (v := .bool _) rfl) ?_; refine zA9 rfl rfl rfl rfl ?_; refine zA9 rfl rfl rfl rfl ?_; refine zA9 rfl rfl rfl rfl ?_; refine zA rfl (zAk (v := .bool _) rfl rfl rfl) ?_; refine zA rfl (zA2 (v := .bool _) rfl) ?_; refine zA9 rfl rfl rfl rfl ?_; refine zA9 rfl rfl rfl rfl ?_; refine zA9 rfl rfl rfl rfl ?_; refine zA9 rfl rfl rfl rfl ?_; refine zA9 rfl rfl rfl rfl ?_; refine zA rfl (zAk (v := .bool _) rfl rfl rfl) ?_; refine zA6 ?_; refine zB6 rfl rfl ?_
      refine zA3 (zA1 ?_); refine zA rfl (zA7 zCe rfl rfl (hE.cellW hs 105 (by decide) rfl)) ?_; refine zA rfl (zA0 (v := zAh ad _) rfl) ?_; refine zA6 ?_; refine zAc ?_; refine zBd (v := zAh ad _) rfl rfl ?_
      have hr : zBe x = true := by simp [zBe, *]
      rw [mfF, if_pos hr]; exact ⟨_, rfl, RetF.bare hs.tail⟩
     ·
      intro h26; replace h26 := zE0 h26; refine zAi rfl rfl (zBj h26) ?_; refine zA rfl (zA4 (o' := 3) zCb rfl sz2 rfl rfl rfl) ?_; refine zAi rfl rfl (zBj h26) ?_; refine zA rfl (zA7 uz2 rfl rfl (hs.cellAt 0 rfl rfl)) ?_; refine zAi rfl rfl (zBj h26) ?_; refine zA rfl (zB9 rfl rfl) ?_; refine zA rfl (zAg (v := .bool _) rfl (zBj h26) rfl) ?_; refine zA rfl (zA2 (v := .bool _) rfl) ?_; refine zB0 (t := _) (d := 34) rfl ?_ ?_
      ·
       intro h32; have g32 := of_decide_eq_true h32; refine zA9 rfl rfl rfl h32 ?_; refine zA9 rfl rfl rfl h32 ?_; refine zA9 rfl rfl rfl h32 ?_; refine zA rfl (zAk (v := .bool _) rfl h32 rfl) ?_; refine zA rfl (zA2 (v := .bool _) rfl) ?_; refine zA9 rfl rfl rfl rfl ?_; refine zA9 rfl rfl rfl rfl ?_; refine zA9 rfl rfl rfl rfl ?_; refine zA9 rfl rfl rfl rfl ?_; refine zA9 rfl rfl rfl rfl ?_; refine zA rfl (zAk (v := .bool _) rfl rfl rfl) ?_; refine zA6 ?_; refine zB6 rfl rfl ?_; refine zA3 (zA1 ?_); refine zA rfl (zA7 zCe rfl rfl (hE.cellW hs 105 (by decide) rfl)) ?_; refine zA rfl (zA0 (v := zAh ad _) rfl) ?_; refine zA6 ?_; refine zAc ?_; refine zBd (v := zAh ad _) rfl rfl ?_
       have hr : zBe x = true := by simp [zBe, *]
       rw [mfF, if_pos hr]; exact ⟨_, rfl, RetF.bare hs.tail⟩
      ·
       intro h32; have g32 := of_decide_eq_false h32; refine zAi rfl rfl h32 ?_; refine zA rfl (zA4 (o' := 3) zCb rfl sz2 rfl rfl rfl) ?_; refine zAi rfl rfl h32 ?_; refine zA rfl (zA7 uz2 rfl rfl (hs.cellAt 0 rfl rfl)) ?_; refine zAi rfl rfl h32 ?_; refine zA rfl (zBl rfl rfl) ?_; refine zA rfl (zAg (v := .bool _) rfl h32 rfl) ?_; refine zA rfl (zA2 (v := .bool _) rfl) ?_; refine zB0 (t := _) (d := 39) rfl ?_ ?_
       ·
        intro h37; have g37 := of_decide_eq_true h37; refine zA9 rfl rfl rfl h37 ?_; refine zA9 rfl rfl rfl h37 ?_; refine zA9 rfl rfl rfl h37 ?_; refine zA9 rfl rfl rfl h37 ?_; refine zA9 rfl rfl rfl h37 ?_; refine zA rfl (zAk (v := .bool _) rfl h37 rfl) ?_; refine zA6 ?_; refine zB6 rfl rfl ?_; refine zA3 (zA1 ?_); refine zA rfl (zA7 zCe rfl rfl (hE.cellW hs 105 (by decide) rfl)) ?_; refine zA rfl (zA0 (v := zAh ad _) rfl) ?_; refine zA6 ?_; refine zAc ?_; refine zBd (v := zAh ad _) rfl rfl ?_
        have hr : zBe x = true := by simp [zBe, *]
        rw [mfF, if_pos hr]; exact ⟨_, rfl, RetF.bare hs.tail⟩
       ·
        intro h37; have g37 := of_decide_eq_false h37; refine zAi rfl rfl h37 ?_; refine zA rfl (zA4 (o' := 2) zCb rfl sz2 rfl rfl rfl) ?_; refine zAi rfl rfl h37 ?_; refine zA rfl (zA7 uz2 rfl rfl (hs.cellAt 0 rfl rfl)) ?_; refine zAi rfl rfl h37 ?_; refine zA rfl (zA4 (o' := 1) zCb rfl sz2 rfl rfl rfl) ?_; refine zAi rfl rfl h37 ?_; refine zA rfl (zA7 uz2 rfl rfl (hs.cellAt 0 rfl rfl)) ?_; refine zAi rfl rfl h37 ?_; refine zA rfl (zDx rfl rfl) ?_; refine zA rfl (zAg (v := .bool _) rfl h37 rfl) ?_; refine zA6 ?_; refine zB rfl ?_ ?_
        ·
         intro h44; have g44 := of_decide_eq_true h44; refine zA3 (zA1 ?_); refine zA rfl (zA7 zCe rfl rfl (hE.cellW hs 105 (by decide) rfl)) ?_; refine zA rfl (zA0 (v := zAh ad _) rfl) ?_; refine zA6 ?_; refine zAc ?_; refine zBd (v := zAh ad _) rfl rfl ?_
         have hr : zBe x = true := by simp [zBe, *]
         rw [mfF, if_pos hr]; exact ⟨_, rfl, RetF.bare hs.tail⟩
        ·
         intro h44; have g44 := of_decide_eq_false h44; refine zAd ?_; refine zA3 ?_; refine zA3 (zA1 ?_); refine zA rfl (zA4 (o' := 4) zCb rfl sz36 rfl rfl rfl) ?_; refine zA rfl (zA7 zDq rfl rfl (hs.cellAt 0 rfl rfl)) ?_; refine zAb rfl en84 (epNew_sl hE hs hm.eps.cons rfl) ?_; clear hs; rintro _ w ⟨q, rfl, hs⟩; refine zA rfl (zA2 (v := .tuple _) rfl) ?_; refine zA rfl (zAa (v := .pointer _) rfl rfl) ?_; refine zA rfl (zAa (v := zAh ad _) rfl rfl) ?_; refine zA rfl (zA0 (v := .pointer _) rfl) ?_; refine zA rfl (zA0 (v := zAh ad _) rfl) ?_; refine zA6 (zA3 (zA1 ?_)); refine zA rfl (zA2 (v := zAh ad _) rfl) ?_; refine zA rfl (zAx (ad := ad) rfl) ?_; refine zA6 ?_; refine zB rfl ?_ ?_
         ·
          intro h54; have g54 := zEt h54; refine zA3 (zA1 ?_); refine zA rfl (zA2 (v := zAh ad _) rfl) ?_; refine zA rfl (zA0 (v := zAh ad _) rfl) ?_; refine zA6 ?_; refine zAc ?_; refine zBd (v := zAh ad _) rfl rfl ?_
          have hr : zBe x = false := by simp [zBe, *]
          have hep : epF x.eps ≠ 0 := by simpa using h54
          rw [mfF, if_neg (by rw [hr]; decide), if_pos hep]; exact ⟨_, rfl, RetF.bare hs.tail⟩
         ·
          intro h54; have g54 := zEs h54; refine zAd ?_; refine zA3 ?_; refine zA3 (zA1 ?_); refine zA rfl (zA4 (o' := 4) zCb rfl sz36 rfl rfl rfl) ?_; refine zA rfl (zA7 zDq rfl rfl (hs.cellAt 0 rfl rfl)) ?_; refine zA rfl (zAt zDq rfl) ?_; refine zA rfl (zA0 (v := .int .i64 _) rfl) ?_; refine zA6 ?_; refine zA3 ?_; refine zAp zBk hs ?_; intro w tr hK; replace hs := tr _ hs; clear tr; refine zA5 0 rfl rfl (fun w hs => zA2 (v := .int .i64 _) rfl) hK ?_; refine zA5 1 rfl rfl (fun w hs => zBo rfl rfl) hK ?_; refine zA5 2 rfl rfl (fun w hs => zA2 (v := .bool _) rfl) hK ?_; refine zGb (t := _) (d := 61) rfl ?_ ?_
          ·
           intro h60; have g60 := of_decide_eq_true h60; refine zAj 3 rfl rfl rfl rfl h60 hK ?_; refine zAj 4 rfl rfl rfl rfl h60 hK ?_; refine zAj 5 rfl rfl rfl rfl h60 hK ?_; refine zAj 6 rfl rfl rfl rfl h60 hK ?_; refine zAj 7 rfl rfl rfl rfl h60 hK ?_; refine zAj 8 rfl rfl rfl rfl h60 hK ?_; refine zAj 9 rfl rfl rfl rfl h60 hK ?_; refine zAj 10 rfl rfl rfl rfl h60 hK ?_; refine zA5 11 rfl rfl (fun w hs => zAk (v := .bool _) rfl h60 rfl) hK ?_; refine zA5 12 rfl rfl (fun w hs => zA2 (v := .bool _) rfl) hK ?_; refine zAj 13 rfl rfl rfl rfl rfl hK ?_; refine zAj 14 rfl rfl rfl rfl rfl hK ?_; refine zAj 15 rfl rfl rfl rfl rfl hK ?_; refine zAj 16 rfl rfl rfl rfl rfl hK ?_
           refine zAj 17 rfl rfl rfl rfl rfl hK ?_; refine zAj 18 rfl rfl rfl rfl rfl hK ?_; refine zAj 19 rfl rfl rfl rfl rfl hK ?_; refine zAj 20 rfl rfl rfl rfl rfl hK ?_; refine zAj 21 rfl rfl rfl rfl rfl hK ?_; refine zAj 22 rfl rfl rfl rfl rfl hK ?_; refine zA5 23 rfl rfl (fun w hs => zAk (v := .bool _) rfl rfl rfl) hK ?_; refine zAr (by kernel_rfl) ?_; clear hK; refine zB6 rfl rfl ?_; refine zA3 (zA1 ?_); refine zA rfl (zA7 zCe rfl rfl (hE.cellW hs 103 (by decide) rfl)) ?_; refine zA rfl (zA0 (v := zAh ad _) rfl) ?_; refine zA6 ?_; refine zAc ?_; refine zBd (v := zAh ad _) rfl rfl ?_
           have hr : zBe x = false := by simp [zBe, *]
           have hep : ¬ epF x.eps ≠ 0 := by simpa using h54
           have hsb : zD x = true := by rw [zD, decide_eq_true (show x.eps.length = 0 by omega)]; rfl
           rw [mfF, if_neg (by rw [hr]; decide), if_neg hep, if_pos hsb]; exact ⟨_, rfl, RetF.bare hs.tail⟩
          ·
           intro h60; have g60 := of_decide_eq_false h60; obtain ⟨y0, hy0⟩ : ∃ y, x.eps[0]? = some y := ⟨_, List.getElem?_eq_getElem (by omega)⟩; obtain ⟨y1, hy1⟩ : ∃ y, x.eps[x.eps.length - 1]? = some y := ⟨_, List.getElem?_eq_getElem (by omega)⟩; obtain ⟨b1, o1, rfl⟩ := hm.eps.cons.at hs (by rw [zEj]; omega); have hlen := epF_len (show epF x.eps = 0 by simpa using h54); refine zAq 3 rfl rfl rfl rfl h60 (fun w hs => zA4 (o' := 4) zCb rfl sz36 rfl rfl rfl) hK ?_; refine zAq 4 rfl rfl rfl rfl h60 (fun w hs => zA7 zDq rfl rfl (hs.cellAt 0 rfl rfl)) hK ?_; refine zAq 5 rfl rfl rfl rfl h60 (fun w hs => zAs zDq sz46 rfl rfl (i := 0) rfl (by omega) rfl) hK ?_
           refine zAq 6 rfl rfl rfl rfl h60 (fun w hs => zA4 uz46 rfl sz2 rfl rfl rfl) hK ?_; refine zAq 7 rfl rfl rfl rfl h60 (fun w hs => zA7 uz2 rfl rfl (hm.eps.cons.cell hs (zE5 hy0) (j := 1) rfl)) hK ?_; refine zAq 8 rfl rfl rfl rfl h60 (fun w hs => zA4 (o' := 1) zCb rfl sz2 rfl rfl rfl) hK ?_; refine zAq 9 rfl rfl rfl rfl h60 (fun w hs => zA7 uz2 rfl rfl (hs.cellAt 0 rfl rfl)) hK ?_; refine zAq 10 rfl rfl rfl rfl h60 (fun w hs => zCf rfl rfl) hK ?_; refine zA5 11 rfl rfl (fun w hs => zAg (v := .bool _) rfl h60 rfl) hK ?_; refine zA5 12 rfl rfl (fun w hs => zA2 (v := .bool _) rfl) hK ?_; refine zGb (t := _) (d := 71) rfl ?_ ?_
           ·
            intro h69; have g69 := zEt h69; refine zAj 13 rfl rfl rfl rfl h69 hK ?_; refine zAj 14 rfl rfl rfl rfl h69 hK ?_; refine zAj 15 rfl rfl rfl rfl h69 hK ?_; refine zAj 16 rfl rfl rfl rfl h69 hK ?_; refine zAj 17 rfl rfl rfl rfl h69 hK ?_; refine zAj 18 rfl rfl rfl rfl h69 hK ?_; refine zAj 19 rfl rfl rfl rfl h69 hK ?_; refine zAj 20 rfl rfl rfl rfl h69 hK ?_; refine zAj 21 rfl rfl rfl rfl h69 hK ?_; refine zAj 22 rfl rfl rfl rfl h69 hK ?_; refine zA5 23 rfl rfl (fun w hs => zAk (v := .bool _) rfl h69 rfl) hK ?_; refine zAr (by kernel_rfl) ?_; clear hK; refine zB6 rfl rfl ?_; refine zA3 (zA1 ?_); refine zA rfl (zA7 zCe rfl rfl (hE.cellW hs 103 (by decide) rfl)) ?_
            refine zA rfl (zA0 (v := zAh ad _) rfl) ?_; refine zA6 ?_; refine zAc ?_; refine zBd (v := zAh ad _) rfl rfl ?_
            have hr : zBe x = false := by simp [zBe, *]
            have hep : ¬ epF x.eps ≠ 0 := by simpa using h54
            have hsb : zD x = true := by simp only [zD, pr_get hy0, pr_get hy1]; simp; omega
            rw [mfF, if_neg (by rw [hr]; decide), if_neg hep, if_pos hsb]; exact ⟨_, rfl, RetF.bare hs.tail⟩
           ·
            intro h69; have g69 := zEs h69; refine zAq 13 rfl rfl rfl rfl h69 (fun w hs => zA4 (o' := 4) zCb rfl sz36 rfl rfl rfl) hK ?_; refine zAq 14 rfl rfl rfl rfl h69 (fun w hs => zA7 zDq rfl rfl (hs.cellAt 0 rfl rfl)) hK ?_; refine zAq 15 rfl rfl rfl rfl h69 (fun w hs => zA2 (v := .int .i64 _) rfl) hK ?_; refine zAq 16 rfl rfl rfl rfl h69 (fun w hs => zC8 rfl rfl (c := ((x.eps.length - 1 : Nat) : Int)) (by omega) (inI (by omega) (by omega))) hK ?_; refine zAq 17 rfl rfl rfl rfl h69 (fun w hs => zAs zDq sz46 rfl rfl rfl (by omega) rfl) hK ?_; refine zAq 18 rfl rfl rfl rfl h69 (fun w hs => zA4 uz46 rfl sz2 rfl rfl rfl) hK ?_
            refine zAq 19 rfl rfl rfl rfl h69 (fun w hs => zA7 uz2 rfl rfl (hm.eps.cons.cell hs (zE5 hy1) (j := 1) rfl)) hK ?_; refine zAq 20 rfl rfl rfl rfl h69 (fun w hs => zA4 (o' := 2) zCb rfl sz2 rfl rfl rfl) hK ?_; refine zAq 21 rfl rfl rfl rfl h69 (fun w hs => zA7 uz2 rfl rfl (hs.cellAt 0 rfl rfl)) hK ?_; refine zAq 22 rfl rfl rfl rfl h69 (fun w hs => zCw rfl rfl) hK ?_; refine zA5 23 rfl rfl (fun w hs => zAg (v := .bool _) rfl h69 rfl) hK ?_; refine zAr (by kernel_rfl) ?_; clear hK; refine zB rfl ?_ ?_
            ·
             intro h81; have g81 := of_decide_eq_true h81; refine zA3 (zA1 ?_); refine zA rfl (zA7 zCe rfl rfl (hE.cellW hs 103 (by decide) rfl)) ?_; refine zA rfl (zA0 (v := zAh ad _) rfl) ?_; refine zA6 ?_; refine zAc ?_; refine zBd (v := zAh ad _) rfl rfl ?_
             have hr : zBe x = false := by simp [zBe, *]
             have hep : ¬ epF x.eps ≠ 0 := by simpa using h54
             have hsb : zD x = true := by simp only [zD, pr_get hy0, pr_get hy1]; simp; omega
             rw [mfF, if_neg (by rw [hr]; decide), if_neg hep, if_pos hsb]; exact ⟨_, rfl, RetF.bare hs.tail⟩
            ·
             intro h81; have g81 := of_decide_eq_false h81; refine zAd ?_; refine zA3 (zA1 ?_); refine zA rfl (zA4 (o' := 5) zCb rfl sz37 rfl rfl rfl) ?_; refine zA rfl (zA7 zDf rfl rfl (hs.cellAt 0 rfl rfl)) ?_; refine zAb rfl en85 (objects_sl hE hs hm.obs.cons rfl hob) ?_; clear hs; rintro _ w ⟨eb, rfl, hs⟩; refine zA rfl (zA0 (v := flV ad _ _) rfl) ?_; refine zA6 ?_; refine zAc ?_; refine zBd (v := flV ad _ _) rfl rfl ?_
             have hr : zBe x = false := by simp [zBe, *]
             have hep : ¬ epF x.eps ≠ 0 := by simpa using h54
             have hsb : zD x = false := by rw [zD, pr_get hy0, pr_get hy1, decide_eq_false (show ¬ x.eps.length = 0 by omega), decide_eq_false (show ¬ y0.2 ≠ x.base by omega), decide_eq_false (show ¬ x.fin ≤ y1.2 by omega)]; rfl
             rw [mfF, if_neg (by rw [hr]; decide), if_neg hep, if_neg (by rw [hsb]; decide)]; exact ⟨_, rfl, eb, rfl, hs.arr [0] 2 (by decide)⟩
theorem sameM_sl (hs : Mem g w L) {x y : Mf} {e o e2 o2 : SA} (hx : MfR g L x e o) (hy : MfR g L y e2 o2) (h1 : x.eps.length ≤ 1000000) (h2 : x.obs.length ≤ 1000000) : Calls Tryz.prog 67 #[.agg (mfL x e o).toArray, .agg (mfL y e2 o2).toArray] w (Ret fun v w' => v = .bool (decide (x = y)) ∧ Mem g w' L) := by
  refine zAf Tryz.func67 rfl rfl ?_
  skip
  refine zA3 (zA1 ?_); refine zBh (v := .agg _) hs rfl rfl ?_; clear hs; intro b2 w hs
  try simp only [zzs, zzz] at hs
  refine zBh (v := .agg _) hs rfl rfl ?_; clear hs; intro b3 w hs
  try simp only [zzs, zzz] at hs
  refine zA rfl (zA0 (v := .bool _) rfl) ?_; refine zA6 (zA3 (zA1 ?_)); refine zA rfl (zA4 (o' := 0) zCb rfl sz3 rfl rfl rfl) ?_; refine zA rfl (zA7 uz3 rfl rfl (hs.cellAt 1 rfl rfl)) ?_; refine zA rfl (zA4 (o' := 0) zCb rfl sz3 rfl rfl rfl) ?_; refine zA rfl (zA7 uz3 rfl rfl (hs.cellAt 0 rfl rfl)) ?_; refine zA rfl (zBo rfl rfl) ?_; refine zA rfl (zA2 (v := .bool _) rfl) ?_; refine zB0 (t := _) (d := 10) rfl ?_ ?_
  ·
   intro h9; have g9 := of_decide_eq_true h9; refine zAi rfl rfl h9 ?_; refine zA rfl (zA4 (o' := 1) zCb rfl sz2 rfl rfl rfl) ?_; refine zAi rfl rfl h9 ?_; refine zA rfl (zA7 uz2 rfl rfl (hs.cellAt 1 rfl rfl)) ?_; refine zAi rfl rfl h9 ?_; refine zA rfl (zA4 (o' := 1) zCb rfl sz2 rfl rfl rfl) ?_; refine zAi rfl rfl h9 ?_; refine zA rfl (zA7 uz2 rfl rfl (hs.cellAt 0 rfl rfl)) ?_; refine zAi rfl rfl h9 ?_; refine zA rfl (zBo rfl rfl) ?_; refine zA rfl (zAk (v := .bool _) rfl h9 rfl) ?_; refine zA rfl (zA2 (v := .bool _) rfl) ?_; refine zB0 (t := _) (d := 17) rfl ?_ ?_
   ·
    intro h15; have g15 := of_decide_eq_true h15; refine zAi rfl rfl h15 ?_; refine zA rfl (zA4 (o' := 2) zCb rfl sz2 rfl rfl rfl) ?_; refine zAi rfl rfl h15 ?_; refine zA rfl (zA7 uz2 rfl rfl (hs.cellAt 1 rfl rfl)) ?_; refine zAi rfl rfl h15 ?_; refine zA rfl (zA4 (o' := 2) zCb rfl sz2 rfl rfl rfl) ?_; refine zAi rfl rfl h15 ?_; refine zA rfl (zA7 uz2 rfl rfl (hs.cellAt 0 rfl rfl)) ?_; refine zAi rfl rfl h15 ?_; refine zA rfl (zBo rfl rfl) ?_; refine zA rfl (zAk (v := .bool _) rfl h15 rfl) ?_; refine zA rfl (zA2 (v := .bool _) rfl) ?_; refine zB0 (t := _) (d := 24) rfl ?_ ?_
    ·
     intro h22; have g22 := of_decide_eq_true h22; refine zAi rfl rfl h22 ?_; refine zA rfl (zA4 (o' := 3) zCb rfl sz2 rfl rfl rfl) ?_; refine zAi rfl rfl h22 ?_; refine zA rfl (zA7 uz2 rfl rfl (hs.cellAt 1 rfl rfl)) ?_; refine zAi rfl rfl h22 ?_; refine zA rfl (zA4 (o' := 3) zCb rfl sz2 rfl rfl rfl) ?_; refine zAi rfl rfl h22 ?_; refine zA rfl (zA7 uz2 rfl rfl (hs.cellAt 0 rfl rfl)) ?_; refine zAi rfl rfl h22 ?_; refine zA rfl (zBo rfl rfl) ?_; refine zA rfl (zAk (v := .bool _) rfl h22 rfl) ?_; refine zA rfl (zA2 (v := .bool _) rfl) ?_; refine zB0 (t := _) (d := 31) rfl ?_ ?_
     ·
      intro h29; have g29 := of_decide_eq_true h29; refine zAi rfl rfl h29 ?_; refine zA rfl (zA4 (o' := 4) zCb rfl sz36 rfl rfl rfl) ?_; refine zAi rfl rfl h29 ?_; refine zA rfl (zA7 zDq rfl rfl (hs.cellAt 1 rfl rfl)) ?_; refine zAi rfl rfl h29 ?_; refine zA rfl (zA4 (o' := 4) zCb rfl sz36 rfl rfl rfl) ?_; refine zAi rfl rfl h29 ?_; refine zA rfl (zA7 zDq rfl rfl (hs.cellAt 0 rfl rfl)) ?_; refine zAi rfl rfl h29 ?_; refine zAb rfl en107 (eqPr_sl hs hx.eps.cons.cons hy.eps.cons.cons rfl rfl h1) ?_; clear hs; rintro _ w ⟨rfl, hs⟩; refine zA rfl (zAk (v := .bool _) rfl h29 rfl) ?_; refine zA rfl (zA2 (v := .bool _) rfl) ?_; refine zB0 (t := _) (d := 38) rfl ?_ ?_
      ·
       intro h36; refine zAi rfl rfl h36 ?_; refine zA rfl (zA4 (o' := 5) zCb rfl sz37 rfl rfl rfl) ?_; refine zAi rfl rfl h36 ?_; refine zA rfl (zA7 zDf rfl rfl (hs.cellAt 1 rfl rfl)) ?_; refine zAi rfl rfl h36 ?_; refine zA rfl (zA4 (o' := 5) zCb rfl sz37 rfl rfl rfl) ?_; refine zAi rfl rfl h36 ?_; refine zA rfl (zA7 zDf rfl rfl (hs.cellAt 0 rfl rfl)) ?_; refine zAi rfl rfl h36 ?_; refine zAb rfl en108 (eqOb_sl hs hx.obs.cons.cons hy.obs.cons.cons rfl rfl h2) ?_; clear hs; rintro _ w ⟨rfl, hs⟩; refine zA rfl (zAk (v := .bool _) rfl h36 rfl) ?_; refine zA rfl (zA0 (v := .bool _) rfl) ?_; refine zA6 ?_; refine zAc ?_; refine zBd (v := .bool _) rfl rfl ?_
       exact ⟨_, rfl, zD6 (by have e1 := of_decide_eq_true h36; exact decide_eq_decide.2 ⟨fun q => by obtain ⟨x1, x2, x3, x4, x5, x6⟩ := x; obtain ⟨y1, y2, y3, y4, y5, y6⟩ := y; simp only at *; subst g9 g15 g22 g29 e1 q; rfl, fun q => by rw [q]⟩), hs.tail.tail⟩
      ·
       intro h36; refine zA9 rfl rfl rfl h36 ?_; refine zA9 rfl rfl rfl h36 ?_; refine zA9 rfl rfl rfl h36 ?_; refine zA9 rfl rfl rfl h36 ?_; refine zA9 rfl rfl rfl h36 ?_; refine zA rfl (zAg (v := .bool _) rfl h36 rfl) ?_; refine zA rfl (zA0 (v := .bool _) rfl) ?_; refine zA6 ?_; refine zAc ?_; refine zBd (v := .bool _) rfl rfl ?_; exact ⟨_, rfl, zD6 (decide_eq_false (fun q => of_decide_eq_false h36 (by rw [q]))).symm, hs.tail.tail⟩
     ·
      intro h29; have g29 := of_decide_eq_false h29; refine zA9 rfl rfl rfl h29 ?_; refine zA9 rfl rfl rfl h29 ?_; refine zA9 rfl rfl rfl h29 ?_; refine zA9 rfl rfl rfl h29 ?_; refine zA9 rfl rfl rfl h29 ?_; refine zA rfl (zAg (v := .bool _) rfl h29 rfl) ?_; refine zA rfl (zA2 (v := .bool _) rfl) ?_; refine zA9 rfl rfl rfl rfl ?_; refine zA9 rfl rfl rfl rfl ?_; refine zA9 rfl rfl rfl rfl ?_; refine zA9 rfl rfl rfl rfl ?_; refine zA9 rfl rfl rfl rfl ?_; refine zA rfl (zAg (v := .bool _) rfl rfl rfl) ?_; refine zA rfl (zA0 (v := .bool _) rfl) ?_; refine zA6 ?_; refine zAc ?_; refine zBd (v := .bool _) rfl rfl ?_
      exact ⟨_, rfl, zD6 (decide_eq_false (fun q => g29 (by rw [q]))).symm, hs.tail.tail⟩
    ·
     intro h22; have g22 := of_decide_eq_false h22; refine zA9 rfl rfl rfl h22 ?_; refine zA9 rfl rfl rfl h22 ?_; refine zA9 rfl rfl rfl h22 ?_; refine zA9 rfl rfl rfl h22 ?_; refine zA9 rfl rfl rfl h22 ?_; refine zA rfl (zAg (v := .bool _) rfl h22 rfl) ?_; refine zA rfl (zA2 (v := .bool _) rfl) ?_; refine zA9 rfl rfl rfl rfl ?_; refine zA9 rfl rfl rfl rfl ?_; refine zA9 rfl rfl rfl rfl ?_; refine zA9 rfl rfl rfl rfl ?_; refine zA9 rfl rfl rfl rfl ?_; refine zA rfl (zAg (v := .bool _) rfl rfl rfl) ?_; refine zA rfl (zA2 (v := .bool _) rfl) ?_; refine zA9 rfl rfl rfl rfl ?_; refine zA9 rfl rfl rfl rfl ?_; refine zA9 rfl rfl rfl rfl ?_; refine zA9 rfl rfl rfl rfl ?_
     refine zA9 rfl rfl rfl rfl ?_; refine zA rfl (zAg (v := .bool _) rfl rfl rfl) ?_; refine zA rfl (zA0 (v := .bool _) rfl) ?_; refine zA6 ?_; refine zAc ?_; refine zBd (v := .bool _) rfl rfl ?_; exact ⟨_, rfl, zD6 (decide_eq_false (fun q => g22 (by rw [q]))).symm, hs.tail.tail⟩
   ·
    intro h15; have g15 := of_decide_eq_false h15; refine zA9 rfl rfl rfl h15 ?_; refine zA9 rfl rfl rfl h15 ?_; refine zA9 rfl rfl rfl h15 ?_; refine zA9 rfl rfl rfl h15 ?_; refine zA9 rfl rfl rfl h15 ?_; refine zA rfl (zAg (v := .bool _) rfl h15 rfl) ?_; refine zA rfl (zA2 (v := .bool _) rfl) ?_; refine zA9 rfl rfl rfl rfl ?_; refine zA9 rfl rfl rfl rfl ?_; refine zA9 rfl rfl rfl rfl ?_; refine zA9 rfl rfl rfl rfl ?_; refine zA9 rfl rfl rfl rfl ?_; refine zA rfl (zAg (v := .bool _) rfl rfl rfl) ?_; refine zA rfl (zA2 (v := .bool _) rfl) ?_; refine zA9 rfl rfl rfl rfl ?_; refine zA9 rfl rfl rfl rfl ?_; refine zA9 rfl rfl rfl rfl ?_; refine zA9 rfl rfl rfl rfl ?_
    refine zA9 rfl rfl rfl rfl ?_; refine zA rfl (zAg (v := .bool _) rfl rfl rfl) ?_; refine zA rfl (zA2 (v := .bool _) rfl) ?_; refine zA9 rfl rfl rfl rfl ?_; refine zA9 rfl rfl rfl rfl ?_; refine zA9 rfl rfl rfl rfl ?_; refine zA9 rfl rfl rfl rfl ?_; refine zA9 rfl rfl rfl rfl ?_; refine zA rfl (zAg (v := .bool _) rfl rfl rfl) ?_; refine zA rfl (zA0 (v := .bool _) rfl) ?_; refine zA6 ?_; refine zAc ?_; refine zBd (v := .bool _) rfl rfl ?_; exact ⟨_, rfl, zD6 (decide_eq_false (fun q => g15 (by rw [q]))).symm, hs.tail.tail⟩
  ·
   intro h9; have g9 := of_decide_eq_false h9; refine zA9 rfl rfl rfl h9 ?_; refine zA9 rfl rfl rfl h9 ?_; refine zA9 rfl rfl rfl h9 ?_; refine zA9 rfl rfl rfl h9 ?_; refine zA9 rfl rfl rfl h9 ?_; refine zA rfl (zAg (v := .bool _) rfl h9 rfl) ?_; refine zA rfl (zA2 (v := .bool _) rfl) ?_; refine zA9 rfl rfl rfl rfl ?_; refine zA9 rfl rfl rfl rfl ?_; refine zA9 rfl rfl rfl rfl ?_; refine zA9 rfl rfl rfl rfl ?_; refine zA9 rfl rfl rfl rfl ?_; refine zA rfl (zAg (v := .bool _) rfl rfl rfl) ?_; refine zA rfl (zA2 (v := .bool _) rfl) ?_; refine zA9 rfl rfl rfl rfl ?_; refine zA9 rfl rfl rfl rfl ?_; refine zA9 rfl rfl rfl rfl ?_; refine zA9 rfl rfl rfl rfl ?_; refine zA9 rfl rfl rfl rfl ?_
   refine zA rfl (zAg (v := .bool _) rfl rfl rfl) ?_; refine zA rfl (zA2 (v := .bool _) rfl) ?_; refine zA9 rfl rfl rfl rfl ?_; refine zA9 rfl rfl rfl rfl ?_; refine zA9 rfl rfl rfl rfl ?_; refine zA9 rfl rfl rfl rfl ?_; refine zA9 rfl rfl rfl rfl ?_; refine zA rfl (zAg (v := .bool _) rfl rfl rfl) ?_; refine zA rfl (zA2 (v := .bool _) rfl) ?_; refine zA9 rfl rfl rfl rfl ?_; refine zA9 rfl rfl rfl rfl ?_; refine zA9 rfl rfl rfl rfl ?_; refine zA9 rfl rfl rfl rfl ?_; refine zA9 rfl rfl rfl rfl ?_; refine zA rfl (zAg (v := .bool _) rfl rfl rfl) ?_; refine zA rfl (zA0 (v := .bool _) rfl) ?_; refine zA6 ?_; refine zAc ?_; refine zBd (v := .bool _) rfl rfl ?_
   exact ⟨_, rfl, zD6 (decide_eq_false (fun q => g9 (by rw [q]))).symm, hs.tail.tail⟩
theorem cloneM_sl (hs : Mem g w L) {x : Mf} {e o : SA} (hx : MfR g L x e o) (h1 : x.eps.length ≤ 1000000) (h2 : x.obs.length ≤ 1000000) : Calls Tryz.prog 46 #[.agg (mfL x e o).toArray] w (Ret fun v w' => ∃ s1 s2 : SA, v = .agg (mfL x s1 s2).toArray ∧ Mem g w' (mfP x s1 s2 ++ L)) := by
  refine zAf Tryz.func46 rfl rfl ?_
  skip
  refine zA3 (zA1 ?_); refine zBh (v := .agg _) hs rfl rfl ?_; clear hs; intro b1 w hs
  try simp only [zzs, zzz] at hs
  refine zBn hs rfl ze39 ?_; clear hs; intro b2 w hs
  try simp only [zzs, zzz] at hs
  refine zA6 ?_; refine zA3 ?_; have hM := hs.drop 1; generalize hM0 : List.eraseIdx _ 1 = M0 at hM; refine zAp zBk hM ?_; intro w tr hK; replace hs := tr _ hs; clear tr; refine zA5 0 rfl rfl (fun w hs => zA4 (o' := 4) zCb rfl sz36 rfl rfl rfl) hK ?_; refine zA5 3 rfl rfl (fun w hs => zA4 (o' := 5) zCb rfl sz37 rfl rfl rfl) hK ?_; refine zAe [1, 4] ?_; refine ⟨⟨_, rfl, ?_⟩, ⟨_, rfl, ?_⟩, trivial⟩; refine zA rfl (zA7 zDq rfl rfl (hs.cellAt 1 rfl rfl)) ?_; clear hK; have hK := (show Mem g w M0 from by rw [← hM0]; first | exact hs.drop 1 | exact hs.tail.drop 1 | exact hs.tail.tail.drop 1); refine zA6 ⟨hK, ?_⟩; refine zAe [2, 4] ?_; refine ⟨⟨_, rfl, ?_⟩, ⟨_, rfl, ?_⟩, trivial⟩
  refine zAb rfl en86 (clonePr_sl hs hx.eps.cons.cons rfl h1) ?_; clear hs; rintro _ w ⟨s1, rfl, hs⟩; clear hK; have hK := (show Mem g w M0 from by rw [← hM0]; first | exact hs.drop 1 | exact hs.tail.drop 1 | exact hs.tail.tail.drop 1); refine zA6 ⟨hK, ?_⟩; refine zAe [4] ?_; refine ⟨⟨_, rfl, ?_⟩, trivial⟩; refine zA rfl (zA7 zDf rfl rfl (hs.cellAt 2 rfl rfl)) ?_
  rotate_left
  refine zA rfl (zA7 zDf rfl rfl (hs.cellAt 1 rfl rfl)) ?_; clear hK; have hK := (show Mem g w M0 from by rw [← hM0]; first | exact hs.drop 1 | exact hs.tail.drop 1 | exact hs.tail.tail.drop 1); refine zA6 ⟨hK, ?_⟩; refine zAe [2] ?_; refine ⟨⟨_, rfl, ?_⟩, trivial⟩; refine zAb rfl en86 (clonePr_sl hs hx.eps.cons.cons rfl h1) ?_; clear hs; rintro _ w ⟨s1, rfl, hs⟩
  rotate_left
  refine zA rfl (zA7 zDf rfl rfl (hs.cellAt 1 rfl rfl)) ?_; clear hK; have hK := (show Mem g w M0 from by rw [← hM0]; first | exact hs.drop 1 | exact hs.tail.drop 1 | exact hs.tail.tail.drop 1); refine zA6 ⟨hK, ?_⟩; refine zAe [1] ?_; refine ⟨⟨_, rfl, ?_⟩, trivial⟩; refine zA rfl (zA7 zDq rfl rfl (hs.cellAt 1 rfl rfl)) ?_; clear hK; have hK := (show Mem g w M0 from by rw [← hM0]; first | exact hs.drop 1 | exact hs.tail.drop 1 | exact hs.tail.tail.drop 1); refine zA6 ⟨hK, ?_⟩; refine zAe [2] ?_; refine ⟨⟨_, rfl, ?_⟩, trivial⟩; refine zAb rfl en86 (clonePr_sl hs hx.eps.cons.cons rfl h1) ?_; clear hs; rintro _ w ⟨s1, rfl, hs⟩
  rotate_left
  all_goals
   clear hK; have hK := (show Mem g w M0 from by rw [← hM0]; first | exact hs.drop 1 | exact hs.tail.drop 1 | exact hs.tail.tail.drop 1); refine zA6 ⟨hK, ?_⟩; refine zA5 6 rfl rfl (fun w hs => zA4 (o' := 4) zCb rfl sz36 rfl rfl rfl) hK ?_; refine zAe [5] ?_; refine ⟨⟨_, rfl, ?_⟩, trivial⟩; refine zAb rfl en87 (cloneOb_sl hs hx.obs.cons.cons.cons rfl h2) ?_; clear hs; rintro _ w ⟨s2, rfl, hs⟩; clear hK; have hK := (show Mem g w M0 from by rw [← hM0]; first | exact hs.drop 1 | exact hs.tail.drop 1 | exact hs.tail.tail.drop 1); refine zA6 ⟨hK, ?_⟩; refine zAe [7] ?_; refine ⟨⟨_, rfl, ?_⟩, trivial⟩; refine zB5 (v := .slice _ _ _) hs 3 rfl sz36 rfl rfl rfl rfl ?_; clear hs; intro w hs
   try simp only [zzs, zzz] at hs
   clear hK; have hK := (show Mem g w M0 from by rw [← hM0]; first | exact hs.drop 1 | exact hs.tail.drop 1 | exact hs.tail.tail.drop 1); refine zA6 ⟨hK, ?_⟩; refine zA5 8 rfl rfl (fun w hs => zA4 (o' := 5) zCb rfl sz37 rfl rfl rfl) hK ?_; refine zAe [9] ?_; refine ⟨⟨_, rfl, ?_⟩, trivial⟩; refine zB5 (v := .slice _ _ _) hs 3 rfl sz37 rfl rfl rfl rfl ?_; clear hs; intro w hs
   try simp only [zzs, zzz] at hs
   clear hK; have hK := (show Mem g w M0 from by rw [← hM0]; first | exact hs.drop 1 | exact hs.tail.drop 1 | exact hs.tail.tail.drop 1); refine zA6 ⟨hK, ?_⟩; refine zAr (by kernel_rfl) ?_; clear hK; refine zA3 (zA1 ?_); refine zA rfl (zBa hs 3 rfl zCb zF2 rfl) ?_; refine zAn hs 2 rfl rfl rfl zF2 rfl rfl ?_; clear hs; intro w hs
   try simp only [zzs, zzz] at hs
   refine zA6 ?_; refine zAc ?_; refine resG [(.cell 2 39, .agg _)] rfl ⟨⟨_, rfl, zC2 hs 2 rfl zCb zF2⟩, trivial⟩ ?_; exact ⟨_, rfl, s1, s2, rfl, hs.arr [1, 0] 4 (by decide)⟩
theorem nextE_sl (hs : Mem g w L) (s k : Int) : Calls Tryz.prog 133 #[.int .i64 s, .int .i64 k] w (Ret fun v w' => v = .bool (nextB s k) ∧ Mem g w' L) := by
  refine zAf Tryz.func133 rfl rfl ?_
  skip
  refine zA3 (zA1 ?_); refine zA rfl (zA0 (v := .bool _) rfl) ?_; refine zA6 ?_; refine zA3 ?_; refine zA3 (zA1 ?_); refine zA rfl (zA2 (v := .int .i64 _) rfl) ?_; refine zA6 ?_; refine zAo ?_; refine zA3 (zA1 ?_); refine zA rfl (zBo rfl rfl) ?_; refine zA rfl (zA0 (v := .bool _) rfl) ?_; refine zA6 ?_; refine zB rfl ?_ ?_
  ·
   intro h7; have g7 := of_decide_eq_true h7; refine zA3 (zA1 ?_); refine zA rfl (zA2 (v := .int .i64 _) rfl) ?_; refine zA rfl (zBo rfl rfl) ?_; refine zA rfl (zA0 (v := .bool _) rfl) ?_; refine zA6 ?_; refine zAc ?_; refine zBd (v := .bool _) rfl rfl ?_; exact ⟨_, rfl, zD6 (by rw [Bool.eq_iff_iff]; simp [nextB, *]), hs⟩
  ·
   intro h7; have g7 := of_decide_eq_false h7; refine zA3 (zA1 ?_); refine zA rfl (zBo rfl rfl) ?_; refine zA rfl (zA0 (v := .bool _) rfl) ?_; refine zA6 ?_; refine zB rfl ?_ ?_
   ·
    intro h11; have g11 := of_decide_eq_true h11; refine zA3 (zA1 ?_); refine zA rfl (zA2 (v := .int .i64 _) rfl) ?_; refine zA rfl (zBo rfl rfl) ?_; refine zA rfl (zA0 (v := .bool _) rfl) ?_; refine zA6 ?_; refine zAc ?_; refine zBd (v := .bool _) rfl rfl ?_; exact ⟨_, rfl, zD6 (by rw [Bool.eq_iff_iff]; simp [nextB, *]), hs⟩
   ·
    intro h11; have g11 := of_decide_eq_false h11; refine zA3 (zA1 ?_); refine zA rfl (zBo rfl rfl) ?_; refine zA rfl (zA0 (v := .bool _) rfl) ?_; refine zA6 ?_; refine zB rfl ?_ ?_
    ·
     intro h15; have g15 := of_decide_eq_true h15; refine zA3 (zA1 ?_); refine zA rfl (zA2 (v := .int .i64 _) rfl) ?_; refine zA rfl (zBo rfl rfl) ?_; refine zA rfl (zA2 (v := .bool _) rfl) ?_; refine zB0 (t := _) (d := 18) rfl ?_ ?_
     ·
      intro h17; have g17 := of_decide_eq_true h17; refine zA9 rfl rfl rfl h17 ?_; refine zA9 rfl rfl rfl h17 ?_; refine zA rfl (zAk (v := .bool _) rfl h17 rfl) ?_; refine zA rfl (zA0 (v := .bool _) rfl) ?_; refine zA6 ?_; refine zAc ?_; refine zBd (v := .bool _) rfl rfl ?_; exact ⟨_, rfl, zD6 (by rw [Bool.eq_iff_iff]; simp [nextB, *]), hs⟩
     ·
      intro h17; have g17 := of_decide_eq_false h17; refine zAi rfl rfl h17 ?_; refine zA rfl (zA2 (v := .int .i64 _) rfl) ?_; refine zAi rfl rfl h17 ?_; refine zA rfl (zBo rfl rfl) ?_; refine zA rfl (zAg (v := .bool _) rfl h17 rfl) ?_; refine zA rfl (zA0 (v := .bool _) rfl) ?_; refine zA6 ?_; refine zAc ?_; refine zBd (v := .bool _) rfl rfl ?_; exact ⟨_, rfl, zD6 (by rw [Bool.eq_iff_iff]; simp [nextB, *]), hs⟩
    ·
     intro h15; have g15 := of_decide_eq_false h15; refine zA3 (zA1 ?_); refine zA rfl (zBo rfl rfl) ?_; refine zA rfl (zA0 (v := .bool _) rfl) ?_; refine zA6 ?_; refine zB rfl ?_ ?_
     ·
      intro h23; have g23 := of_decide_eq_true h23; refine zA3 (zA1 ?_); refine zA rfl (zA2 (v := .int .i64 _) rfl) ?_; refine zA rfl (zBo rfl rfl) ?_; refine zA rfl (zA0 (v := .bool _) rfl) ?_; refine zA6 ?_; refine zAc ?_; refine zBd (v := .bool _) rfl rfl ?_; exact ⟨_, rfl, zD6 (by rw [Bool.eq_iff_iff]; simp [nextB, *]), hs⟩
     ·
      intro h23; have g23 := of_decide_eq_false h23; refine zAd ?_; refine zA3 (zA1 ?_); refine zA rfl (zA0 (v := .bool _) rfl) ?_; refine zA6 ?_; refine zAc ?_; refine zBd (v := .bool _) rfl rfl ?_; exact ⟨_, rfl, zD6 (by rw [Bool.eq_iff_iff]; simp [nextB, *]), hs⟩
end
section
theorem al_key {κ α : Type} [DecidableEq κ] {l : List (κ × α)} {k : κ} {v : α} (h : zAw l k = some v) : k ∈ zAl l := List.mem_map_of_mem (zCq h)
theorem al_of_key {κ α : Type} [DecidableEq κ] {l : List (κ × α)} {k : κ} (h : k ∈ zAl l) : ∃ v, zAw l k = some v := by
  cases hc : zAw l k with
  | some v => exact ⟨v, rfl⟩
  | none => exact absurd h ((zB7 _ _).1 hc)
theorem al_in {κ α : Type} [DecidableEq κ] {l : List (κ × α)} {k : κ} {v : α} {x : κ × α} (h : x ∈ zBv l k v) : x = (k, v) ∨ x ∈ l := by
  induction l with
  | nil => simp [zBv] at h; exact .inl h
  | cons y l ih =>
    obtain ⟨a, b⟩ := y; simp only [zBv] at h
    split at h
    · rcases List.mem_cons.1 h with h | h
      · exact .inl h
      · exact .inr (List.mem_cons_of_mem _ h)
    · rcases List.mem_cons.1 h with h | h
      · exact .inr (by rw [h]; exact List.mem_cons_self ..)
      · rcases ih h with h | h
        · exact .inl h
        · exact .inr (List.mem_cons_of_mem _ h)
theorem al_end {κ α : Type} [DecidableEq κ] {l : List (κ × α)} {k : κ} {v : α} (h : zAw l k = none) : zBv l k v = l ++ [(k, v)] := by
  rw [zB7] at h
  induction l with
  | nil => rfl
  | cons x l ih =>
    obtain ⟨a, b⟩ := x; simp only [zAl, List.map_cons, List.mem_cons, not_or] at h; simp only [List.cons_append, zBv]; rw [if_neg (fun e => h.1 e.symm), ih h.2]
theorem al_len {κ α : Type} [DecidableEq κ] {l : List (κ × α)} {k : κ} {v u : α} (h : zAw l k = some u) : (zBv l k v).length = l.length := by
  have := congrArg List.length (show zAl (zBv l k v) = zAl l by rw [zEl, if_pos (al_key h)])
  simpa [zAl] using this
theorem al_del {κ α : Type} [DecidableEq κ] : ∀ {l : List (κ × α)} {k : κ} {v : α}, zAw l k = some v → (zDa l k).length + 1 = l.length
  | (a, b) :: l, k, v, h => by
    simp only [zAw] at h; simp only [zDa]
    split at h
    · rename_i e; rw [if_pos e]; simp
    · rename_i e; rw [if_neg e]; have := al_del h; simpa using this
variable {V : Vw} {k : Int} {x : Mf}
theorem Vw.ok_nil : Vw.ok [] := ⟨List.nodup_nil, (fun x h => by cases h), by simp⟩
theorem nextB_kind {s k : Int} (h : nextB s k = true) : 1 ≤ k ∧ k ≤ 4 := by
  unfold nextB at h
  split at h
  · omega
  · split at h
    · omega
    · split at h
      · omega
      · split at h
        · omega
        · cases h
theorem Vw.apply_ok (h : V.ok) (k : Int) (x : Mf) : (V.apply k x).2.ok := by
  unfold Vw.apply
  split
  · exact h
  · rename_i h1
    have h1 : (mfF x).1 = 0 := by simpa using h1
    split
    · exact h
    · rename_i h2
      split
      · exact h
      · split
        · rename_i hn
          split
          · exact h
          · rename_i h4
            refine ⟨nodup_put h.nd _ _, fun y hy => ?_, ?_⟩
            · rcases al_in hy with rfl | hy
              · exact ⟨h1, rfl, by show 1 ≤ k; omega, by show k ≤ 4; omega⟩
              · exact h.fine y hy
            · show (zBv V x.id ⟨k, x⟩).length ≤ 4096
              rw [al_end hn]; simp only [List.length_append, List.length_cons, List.length_nil]
              omega
        · rename_i i hi
          split
          · refine ⟨nodup_put h.nd _ _, fun y hy => ?_, ?_⟩
            · rcases al_in hy with rfl | hy
              · exact ⟨h1, rfl, by show 1 ≤ k; omega, by show k ≤ 4; omega⟩
              · exact h.fine y hy
            · show (zBv V x.id ⟨k, x⟩).length ≤ 4096
              rw [al_len hi]; exact h.few
          · exact h
end
section
open Go.RowKit
attribute [local irreducible] zAh
variable {g w : World} {L M : List HP} {ad : Nat → Addr}
def digR (n : Nat) : Nat → ByteArray
  | 0 => ByteArray.empty
  | i + 1 => ⟨#[UInt8.ofNat (48 + n / 10 ^ i % 10)]⟩ ++ digR n i
def bSeg : ByteArray := ⟨#[115, 101, 103, 45]⟩
def bDash : ByteArray := ⟨#[45]⟩
def bData : ByteArray := ⟨#[100, 97, 116, 97]⟩
def zFa : ByteArray := ⟨#[109, 97, 114, 107, 115]⟩
def zDr (id : Nat) (kind : ByteArray) (base : Nat) : ByteArray := bSeg ++ digR id 10 ++ bDash ++ kind ++ bDash ++ digR base 13
def oneM (id base : Nat) : Mf := ⟨id, base, base + 5, 0, [(1, base)], [(zDr id bData base, 0, 0), (zDr id zFa base, 0, 0)]⟩
end
section
def zCr (x : Nat) : Nat := (x / 2) ^^^ (if x % 2 = 1 then 2197175160 else 0)
def crc4 (x : Nat) : Nat := zCr (zCr (zCr (zCr x)))
theorem xor_swap (x y p : Nat) : x ^^^ (y ^^^ p) = y ^^^ (x ^^^ p) := by rw [← Nat.xor_assoc, Nat.xor_comm x y, Nat.xor_assoc]
theorem crcStep_xor (a b : Nat) : zCr (a ^^^ b) = zCr a ^^^ zCr b := by
  have hm : (a ^^^ b) % 2 = (a % 2) ^^^ (b % 2) := by simpa using Nat.xor_mod_two_pow (a := a) (b := b) (n := 1)
  unfold zCr
  rw [Nat.xor_div_two, hm]
  rcases Nat.mod_two_eq_zero_or_one a with ha | ha <;> rcases Nat.mod_two_eq_zero_or_one b with hb | hb <;> simp only [ha, hb]
  · simp
  · simp [Nat.xor_assoc]
  · simp only [Nat.reduceEqDiff, Nat.xor_zero, if_true, if_false, Nat.reduceXor, Nat.zero_ne_one]
    rw [Nat.xor_assoc, Nat.xor_assoc, Nat.xor_comm (b / 2)]
  · simp only [Nat.xor_self, Nat.reduceEqDiff, if_true]
    have : ∀ x y p : Nat, x ^^^ p ^^^ (y ^^^ p) = x ^^^ y := fun x y p => by
      rw [Nat.xor_assoc, xor_swap p y p, Nat.xor_self, Nat.xor_zero]
    rw [this]; simp
theorem zFo (q : Nat) : zCr (2 * q) = q := by simp [zCr]
theorem crc4_xor (a b : Nat) : crc4 (a ^^^ b) = crc4 a ^^^ crc4 b := by simp only [crc4, crcStep_xor]
theorem crc4_sixteen (q : Nat) : crc4 (16 * q) = q := by
  unfold crc4
  rw [show 16 * q = 2 * (2 * (2 * (2 * q))) by omega, zFo, zFo, zFo, zFo]
theorem split16 (x : Nat) : 16 * (x / 16) ^^^ x % 16 = x := by
  have h1 : (16 * (x / 16) ^^^ x % 16) / 2 ^ 4 = x / 16 := by
    rw [Nat.xor_div_two_pow]
    have a : 16 * (x / 16) / 2 ^ 4 = x / 16 := by omega
    have b : x % 16 / 2 ^ 4 = 0 := by omega
    rw [a, b, Nat.xor_zero]
  have h2 : (16 * (x / 16) ^^^ x % 16) % 2 ^ 4 = x % 16 := by
    rw [Nat.xor_mod_two_pow]
    have a : 16 * (x / 16) % 2 ^ 4 = 0 := by omega
    have b : x % 16 % 2 ^ 4 = x % 16 := by omega
    rw [a, b, Nat.zero_xor]
  have h3 := Nat.div_add_mod (16 * (x / 16) ^^^ x % 16) (2 ^ 4); rw [h1, h2] at h3
  omega
theorem crc4_split (x : Nat) : crc4 x = (x / 16) ^^^ crc4 (x % 16) := by
  conv => lhs; rw [← split16 x]
  rw [crc4_xor, crc4_sixteen]
theorem zG0 {x : Nat} (h : x < 4294967296) : zCr x < 4294967296 := by
  unfold zCr
  refine Nat.xor_lt_two_pow (n := 32) (by omega) ?_
  split <;> decide
theorem crc4_lt {x : Nat} (h : x < 4294967296) : crc4 x < 4294967296 := zG0 (zG0 (zG0 (zG0 h)))
def crcByte (s : Nat) (c : UInt8) : Nat := crc4 (crc4 (s ^^^ c.toNat))
theorem crcByte_lt {s : Nat} (h : s < 4294967296) (c : UInt8) : crcByte s c < 4294967296 :=
  crc4_lt (crc4_lt (Nat.xor_lt_two_pow (n := 32) (by omega) (Nat.lt_trans c.toNat_lt (by decide))))
def zEx (s : Nat) (l : List UInt8) : Nat := l.foldl crcByte s
theorem zFv : ∀ (l : List UInt8) {s : Nat}, s < 4294967296 → zEx s l < 4294967296
  | [], _, h => h
  | c :: l, _, h => zFv l (crcByte_lt h c)
def zBz (s : Nat) (l : List UInt8) : Nat := 4294967295 ^^^ zEx (4294967295 ^^^ s) l
theorem not_lt {s : Nat} (h : s < 4294967296) : 4294967295 ^^^ s < 4294967296 := Nat.xor_lt_two_pow (n := 32) (by omega) (by omega)
theorem crcMore_lt {s : Nat} (h : s < 4294967296) (l : List UInt8) : zBz s l < 4294967296 := not_lt (zFv l (not_lt h))
theorem zCs (a b : Nat) (ha : a < 4294967296) (hb : b < 4294967296) : bits .xor .u32 (a : Int) (b : Int) = ((a ^^^ b : Nat) : Int) := by
  have hx : a ^^^ b < 2 ^ 32 := Nat.xor_lt_two_pow (by omega) (by omega)
  have h1 : (BitVec.ofInt 32 (a : Int)).toNat = a := by
    rw [BitVec.ofInt_natCast, BitVec.toNat_ofNat]; exact Nat.mod_eq_of_lt (by omega)
  have h2 : (BitVec.ofInt 32 (b : Int)).toNat = b := by
    rw [BitVec.ofInt_natCast, BitVec.toNat_ofNat]; exact Nat.mod_eq_of_lt (by omega)
  have hw : ∀ n : Int, IntKind.u32.wrap n = n % 4294967296 := fun n => by simp [IntKind.wrap, IntKind.bits, IntKind.signed]
  show IntKind.u32.wrap ((BitVec.ofInt 32 (a : Int) ^^^ BitVec.ofInt 32 (b : Int)).toNat : Int) = _
  rw [BitVec.toNat_xor, h1, h2, hw]
  omega
theorem not_u32 (s : Nat) (h : s < 4294967296) : bits .xor .u32 IntKind.u32.max (s : Int) = ((4294967295 ^^^ s : Nat) : Int) := by
  have : IntKind.u32.max = ((4294967295 : Nat) : Int) := by decide
  rw [this, zCs _ _ (by decide) h]
theorem half_step (y : Nat) (hy : y < 4294967296) : bits .xor .u32 ((y : Int) / 2) (bits .and .u32 (-bits .and .u32 (y : Int) 1 % 4294967296) 2197175160) = ((zCr y : Nat) : Int) := by
  have e1 : bits .and .u32 (y : Int) 1 = ((y % 2 : Nat) : Int) := by
    have := bits_and_u32_nat y 1 hy (by decide); rw [show ((1 : Nat) : Int) = 1 from rfl] at this; rw [this, show y &&& 1 = y % 2 from Nat.and_two_pow_sub_one_eq_mod y 1]
  rw [e1]
  have hd : ((y : Int) / 2) = ((y / 2 : Nat) : Int) := by omega
  rw [hd]
  unfold zCr
  rcases Nat.mod_two_eq_zero_or_one y with h | h
  · rw [h]
    have e2 : bits .and .u32 (-((0 : Nat) : Int) % 4294967296) 2197175160 = ((0 : Nat) : Int) := by decide
    rw [e2, zCs _ _ (by omega) (by decide)]
    simp
  · rw [h]
    have e2 : bits .and .u32 (-((1 : Nat) : Int) % 4294967296) 2197175160 = ((2197175160 : Nat) : Int) := by decide
    rw [e2, zCs _ _ (by omega) (by decide)]
    simp
theorem low_four (y : Nat) (hy : y < 4294967296) : bits .and .u32 (y : Int) 15 = ((y % 16 : Nat) : Int) := by
  have := bits_and_u32_nat y 15 hy (by decide); rw [show ((15 : Nat) : Int) = 15 from rfl] at this; rw [this, show y &&& 15 = y % 16 from Nat.and_two_pow_sub_one_eq_mod y 4]
theorem half_byte (y : Nat) (hy : y < 4294967296) : bits .xor .u32 ((y : Int) / 16) ((crc4 (y % 16) : Nat) : Int) = ((crc4 y : Nat) : Int) := by
  rw [show ((y : Int) / 16) = ((y / 16 : Nat) : Int) by omega, zCs _ _ (by omega) (crc4_lt (by omega)), ← crc4_split]
end
section
open Go.RowKit
theorem oneU8c (l : List UInt8) {i : Nat} {v : Value} (h : (zAm l)[i]? = some v) : ∃ x, l[i]? = some x ∧ v = .int .u8 x.toNat := by
  simp only [zAm, List.getElem?_map, Option.map_eq_some_iff] at h; obtain ⟨x, hx, rfl⟩ := h; exact ⟨x, hx, rfl⟩
set_option maxRecDepth 100000 in
def crcN : Nat → Nat → Nat
  | 0, x => x
  | m + 1, x => zCr (crcN m x)
theorem crcN_lt {x : Nat} (h : x < 4294967296) : ∀ m, crcN m x < 4294967296
  | 0 => h
  | m + 1 => zG0 (crcN_lt h m)
def zC6 (k : Nat) : Array Value := ((List.range 16).map fun i => .int .u32 ((if i < k then crc4 i else 0 : Nat) : Int)).toArray
theorem half_set : ∀ k, k < 16 → (zC6 k).setIfInBounds k (.int .u32 ((crcN 4 k : Nat) : Int)) = zC6 (k + 1)
  | 0, _ => rfl
  | 1, _ => rfl
  | 2, _ => rfl
  | 3, _ => rfl
  | 4, _ => rfl
  | 5, _ => rfl
  | 6, _ => rfl
  | 7, _ => rfl
  | 8, _ => rfl
  | 9, _ => rfl
  | 10, _ => rfl
  | 11, _ => rfl
  | 12, _ => rfl
  | 13, _ => rfl
  | 14, _ => rfl
  | 15, _ => rfl
  | n + 16, h => absurd h (by omega)
theorem half_at {k : Nat} (h : k < 16) : (zC6 16)[k]? = some (.int .u32 ((crc4 k : Nat) : Int)) := by
  simp [zC6, h]
theorem half_one : (zC6 16).all (·.oneCell') = true := by simp [zC6, Value.oneCell']
theorem size_u32 : (Tryz.prog.info? 64).map (·.size) = some 1 := by kernel_rfl
theorem size_tab (vs : Array Value) (h : vs.size = 16) : (Tryz.prog.info? 254).map (·.size) = some vs.size := by rw [h]; kernel_rfl
theorem agg_tab (w : World) : (isAgg 254).run Tryz.prog w = .ok true w := by simp [isAgg, run_underlying uz254]
def HalfPost (w : World) (e : Ending) (w' : World) : Prop := e = .returned (.agg (zC6 16)) ∧ Below w.heap.size w w'
set_option maxRecDepth 100000 in
theorem halves_any {w : World} : Calls Tryz.prog 172 #[] w (HalfPost w) := by
  go_enter Tryz.func172, Tryz.ntmps172
  go_wp2
  go_loopg [4] 16 (fun g i wr => ∃ k : Nat, g = 16 - k ∧ k ≤ 16 ∧ i = .int .i64 k ∧ Below w.heap.size w wr ∧ wr.heap[w.heap.size + 1]? = some (.cells (zC6 k) 254 (0, 0)) ∧ ∃ z : Array Value, z.size = 16 ∧ wr.heap[w.heap.size]? = some (.cells z 254 (0, 0)))
  case atStart =>
    refine ⟨0, rfl, by omega, rfl, (((Keeps.refl (fun _ => False) w).alloc _).alloc _).below (Nat.le_refl _) fun _ _ => id, ?_, _, ?_, heap_alloc_old (World.alloc_heap_new w _)⟩
    · have := World.alloc_heap_new (w.alloc (.cells (zC6 0) 254)) (.cells (zC6 0) 254)
      show ((w.alloc (.cells (zC6 0) 254)).alloc (.cells (zC6 0) 254)).heap[w.heap.size + 1]? = some (.cells (zC6 0) 254 (0, 0))
      simpa using this
    · rfl
  case round =>
    obtain ⟨k, hg, hk, rfl, hbel, hT, z, hz, hZ⟩ := hrel; subst hg; have HB := Lib.hid hbel; have HT := Lib.hid hT; have HZ := Lib.hid hZ; have Hz := Lib.hid hz; clear hbel hT hZ hz
    by_cases hk16 : k < 16
    · go_wp2
      rw [show decide ((k : Int) < 16) = true from by simp; omega]
      go_loopg [3, 9] 4 (fun g x i wi => wi = wr ∧ ∃ m : Nat, g = 4 - m ∧ m ≤ 4 ∧ i = .int .i64 m ∧ x = .int .u32 (crcN m k : Nat))
      case atStart => exact ⟨rfl, 0, rfl, by omega, rfl, rfl⟩
      case round =>
        obtain ⟨rfl, m, hg, hm, rfl, rfl⟩ := hrel; subst hg; have hlt := crcN_lt (show k < 4294967296 by omega) m
        by_cases hm4 : m < 4
        · go_wp2
          go_roundg (4 - (m + 1))
          case measure => omega
          case rel => exact ⟨rfl, m + 1, rfl, by omega, by go_num, by rw [half_step _ hlt]; rfl⟩
        · have hm4' : m = 4 := by omega
          subst hm4'
          go_wp2_with (refine wpList_storeCell rfl _ _ _ rfl (w.heap.size + 1) k (.int .u32 ((crcN 4 k : Nat) : Int)) rfl rfl HT.out size_u32 (by simp [zC6]; omega) rfl ?_; intro w1 h1 k1 _; have H1 := Lib.hid h1; have K1 := Lib.hid k1; clear h1 k1)
          go_roundg (16 - (k + 1))
          case measure => omega
          case rel => exact ⟨k + 1, rfl, by omega, by go_num, HB.out.trans (K1.out.below HB.out.size fun i hi e => by omega), by rw [H1.out, half_set k hk16], z, Hz.out, K1.out.get HZ.out (by omega)⟩
    · have hk' : k = 16 := by omega
      subst hk'
      go_wp2_with (first
        | (refine wpList_load_row rfl _ _ rfl (w.heap.size + 1) rfl _ (zC6 16) (0, 0) _ HT.out uz254 rfl (size_tab (zC6 16) rfl) ?_)
        | (refine zDm rfl _ _ _ rfl w.heap.size _ rfl rfl HZ.out (size_tab (zC6 16) rfl) Hz.out half_one ?_; intro w2 h2 k2 _; have H2 := Lib.hid h2; have K2 := Lib.hid k2; clear h2 k2))
      refine bodyPost_ret (results_row rfl rfl (agg_tab _) (size_tab (zC6 16) rfl) H2.out) rfl ⟨rfl, ?_⟩; exact HB.out.trans (K2.out.below HB.out.size fun i hi e => by omega)
structure Round (s : Nat) (x : UInt8) (y1 i1 t1 y2 i2 t2 y3 : Nat) : Prop where
  e1 : bits .xor .u32 (s : Int) ((x.toNat : Int) % 4294967296) = (y1 : Int)
  e2 : bits .and .u32 (y1 : Int) 15 = (i1 : Int)
  e3 : bits .xor .u32 ((y1 : Int) / 16) (t1 : Int) = (y2 : Int)
  e4 : bits .and .u32 (y2 : Int) 15 = (i2 : Int)
  e5 : bits .xor .u32 ((y2 : Int) / 16) (t2 : Int) = (y3 : Int)
  l1 : i1 < 16
  l2 : i2 < 16
  h0 : crc4 (crc4 y1) = y3
  h1 : t1 = crc4 i1
  h2 : t2 = crc4 i2
  h3 : y3 = crcByte s x
  b1 : y1 < 4294967296
  b2 : y2 < 4294967296
theorem round_at {s : Nat} (hs : s < 4294967296) (x : UInt8) : ∃ y1 i1 t1 y2 i2 t2 y3, Round s x y1 i1 t1 y2 i2 t2 y3 := by
  have hx : x.toNat < 4294967296 := Nat.lt_trans x.toNat_lt (by decide); have h1 : s ^^^ x.toNat < 4294967296 := Nat.xor_lt_two_pow (n := 32) (by omega) (by omega); have h2 := crc4_lt h1
  exact ⟨s ^^^ x.toNat, (s ^^^ x.toNat) % 16, crc4 ((s ^^^ x.toNat) % 16), crc4 (s ^^^ x.toNat), crc4 (s ^^^ x.toNat) % 16, crc4 (crc4 (s ^^^ x.toNat) % 16), crc4 (crc4 (s ^^^ x.toNat)),
    by rw [show ((x.toNat : Int) % 4294967296) = (x.toNat : Int) by omega]; exact zCs _ _ hs hx, low_four _ h1, half_byte _ h1, low_four _ h2, half_byte _ h2, Nat.mod_lt _ (by decide), Nat.mod_lt _ (by decide), rfl, rfl, rfl, rfl, h1, h2⟩
def SumPost (w : World) (n : Nat) (e : Ending) (w' : World) : Prop := e = .returned (.int .u32 (n : Int)) ∧ Below w.heap.size w w'
set_option maxRecDepth 100000 in
theorem more_any {w : World} {b : Value} {l : List UInt8} {s : Nat} (hs : s < 4294967296) (hb : zEm w b (zAm l)) (hlen : l.length ≤ 1073741824) :
    Calls Tryz.prog 128 #[.int .u32 (s : Int), b] w (SumPost w (zBz s l)) := by
  have HB := Lib.hid hb; obtain ⟨a, n, c, rfl, hal, ha2⟩ := id hb
  have hal' : n = l.length := by simpa [zAm] using hal
  clear hal; subst hal'; clear hb ha2
  go_enter Tryz.func128, Tryz.ntmps128
  go_wp2_with (first
    | (go_at_call 172; refine halves_any.mono ?_; rintro e w1 ⟨rfl, hb1⟩; have Hb1 := Lib.hid hb1; clear hb1)
    | (refine zDm rfl _ _ _ rfl w1.heap.size _ rfl rfl (World.alloc_heap_new w1 _) (size_tab (zC6 16) rfl) rfl half_one ?_; intro w2 h2 k2 _; have H2 := Lib.hid h2; have Hb2 := Lib.hid (Hb1.out.trans ((((Keeps.refl (fun i => i = w1.heap.size) w1).alloc _).trans k2).below Hb1.out.size fun i hi e => by have := Hb1.out.size; omega)); clear h2 k2))
  go_loopg [0, 13] l.length (fun g x i wr => wr = w2 ∧ ∃ k : Nat, g = l.length - k ∧ k ≤ l.length ∧ i = .int .i64 k ∧ x = .int .u32 ((zEx (4294967295 ^^^ s) (l.take k) : Nat) : Int))
  case atStart => exact ⟨rfl, 0, rfl, Nat.zero_le _, rfl, by rw [not_u32 _ hs]; rfl⟩
  case round =>
    obtain ⟨rfl, k, hg, hk, rfl, rfl⟩ := hrel; subst hg
    by_cases hkl : k < l.length
    · obtain ⟨bb, off, rfl, lt, hc⟩ := HB.out.cell hkl
      have hk' : k < (zAm l).length := by simpa [zAm] using hkl
      have cx := (Hb2.out.cell (p := ⟨bb, off + k, none⟩) lt).trans (hc k hk'); obtain ⟨x, hlx, hx⟩ := oneU8c l (List.getElem?_eq_getElem hk'); rw [hx] at cx; clear hc hx hk'; have hlt : zEx (4294967295 ^^^ s) (l.take k) < 4294967296 := zFv _ (not_lt hs); obtain ⟨y1, i1, t1, y2, i2, t2, y3, R⟩ := round_at hlt x
      have hnext : zEx (4294967295 ^^^ s) (l.take (k + 1)) = y3 := by
        rw [R.h3, List.take_add_one, hlx, zEx, zEx, List.foldl_append]; rfl
      have Hn := Lib.hid hnext; obtain ⟨e1, e2, e3, e4, e5, l1, l2, h0, h1, h2, h3, b1, b2⟩ := R; have c1 : wr.cell? ⟨w1.heap.size, i1, none⟩ = some (.int .u32 (t1 : Int)) := zCa H2.out (by rw [h1]; exact half_at l1); have c2 : wr.cell? ⟨w1.heap.size, i2, none⟩ = some (.int .u32 (t2 : Int)) := zCa H2.out (by rw [h2]; exact half_at l2); generalize zEx (4294967295 ^^^ s) (l.take k) = z at *; clear h0 h1 h2 h3 hnext hlx
      go_wp2
      go_roundg (l.length - (k + 1))
      case measure => omega
      case rel => exact ⟨rfl, k + 1, rfl, by omega, by go_num, by rw [Hn.out]⟩
    · have hk' : k = l.length := by omega
      subst hk'
      go_wp2
      go_ret
      refine ⟨?_, Hb2.out⟩
      show Ending.returned (.int .u32 (bits .xor .u32 IntKind.u32.max ((zEx (4294967295 ^^^ s) l : Nat) : Int))) = _
      rw [not_u32 _ (zFv l (not_lt hs))]
      rfl
theorem stayB {w w' : World} {v : Value} {l : List Value} (h : zEm w v l) (k : Below w.heap.size w w') : zEm w' v l := by
  obtain ⟨a, n, c, rfl, hn, hc, ha, h⟩ := h; refine ⟨a, n, c, rfl, hn, hc, ha, ?_⟩
  rcases h with h | ⟨b, off, cs, E, fz, rfl, hb, r⟩
  · exact .inl h
  · exact .inr ⟨b, off, cs, E, fz, rfl, (k.block b (lt_of_block hb)).trans hb, r⟩
set_option maxRecDepth 100000 in
theorem of_any0 {w : World} {pv b : Value} {l : List UInt8} (hp : zEm w pv [b]) (hb : zEm w b (zAm l)) (hlen : l.length ≤ 1073741824) :
    Calls Tryz.prog 88 #[pv] w (SumPost w (zBz 0 l)) := by
  have HP := Lib.hid hp; have HB := Lib.hid hb; obtain ⟨a, n, c, rfl, hal, ha2⟩ := id hp
  have hal' : n = 1 := by simpa using hal
  clear hal; subst hal'; obtain ⟨b1, off, rfl, lt, hc⟩ := HP.out.cell (i := 0) (by omega); have c0 : w.cell? ⟨b1, off, none⟩ = some b := hc 0 (by simp); obtain ⟨ba, bn, bc, rfl, hbl, hb2⟩ := id hb; clear hp hb ha2 hc hbl hb2
  go_enter Tryz.func88, Tryz.ntmps88
  go_wp2
  go_loopg [3, 8] 1 (fun g x i wr => ∃ k : Nat, g = 1 - k ∧ k ≤ 1 ∧ i = .int .i64 k ∧ x = .int .u32 ((if k = 0 then 0 else zBz 0 l : Nat) : Int) ∧ Below w.heap.size w wr)
  case atStart => exact ⟨0, rfl, by omega, rfl, rfl, Below.refl _ _⟩
  case round =>
    obtain ⟨k, hg, hk, rfl, rfl, hbel⟩ := hrel; subst hg; have HE := Lib.hid hbel; clear hbel
    by_cases hk0 : k = 0
    · subst hk0
      have cw : wr.cell? ⟨b1, off, none⟩ = some (.slice ba bn bc) := (HE.out.cell (p := ⟨b1, off, none⟩) lt).trans c0
      go_wp2_with (first
        | (go_at_call 128; refine (more_any (s := 0) (l := l) (by decide) (stayB HB.out HE.out) hlen).mono ?_; rintro e w1 ⟨rfl, hb1⟩; have Hb1 := Lib.hid (HE.out.trans (hb1.mono HE.out.size)); clear hb1))
      go_roundg 0
      case measure => omega
      case rel => exact ⟨1, rfl, by omega, by go_num, rfl, Hb1.out⟩
    · have hk1 : k = 1 := by omega
      subst hk1
      go_wp2
      go_ret
      exact ⟨rfl, HE.out⟩
end
section
open Go.RowKit
set_option maxHeartbeats 800000 in
set_option maxRecDepth 100000 in
theorem refValid_any (s : ByteArray) (w : World) :
    Calls Tryz.prog 60 #[.string s] w fun e w' => e = .returned (.bool (zBq s.data.toList)) ∧ w = w' := by
  by_cases h : 1 ≤ s.size
  · by_cases h2 : s.size ≤ 64
    · go_enter Tryz.func60, Tryz.ntmps60
      go_wp2
      go_loop [3] (fun i => ∃ k : Nat, k ≤ s.size ∧ i = .int .i64 k ∧ (s.data.toList.take k).all (fun c => zD2 c.toNat) = true) (fun i => s.size - (intOf i).toNat)
      case atStart => exact ⟨0, Nat.zero_le _, rfl, rfl⟩
      case round =>
        obtain ⟨k, hk, rfl, hall⟩ := hrel; have Hall := Lib.hid hall; clear hall
        by_cases hlt : k < s.size
        · have hstep := all_take_snoc s k hlt (fun c => zD2 c.toNat)
          have Hs := Lib.hid hstep; clear hstep
          have hkl : k < s.data.toList.length := by simpa using hlt
          have hget : s.data.toList[k] = s[k] := by rw [Array.getElem_toList]; rfl
          have Hg := Lib.hid hget; clear hget
          have hgo : zD2 (s[k].toNat : Int) = true → ((s.data.toList.take (k + 1)).all fun c => zD2 c.toNat) = true := fun h => by rw [Hs.out, Hall.out, h]; rfl
          have hno : zD2 (s[k].toNat : Int) = false → zBq s.data.toList = false := fun h => by
            have := all_false_of (p := fun c => zD2 c.toNat) hkl (by rw [Hg.out]; exact h)
            simp [zBq, this]
          rcases (by omega : (97 ≤ s[k].toNat ∧ s[k].toNat ≤ 122) ∨ (48 ≤ s[k].toNat ∧ s[k].toNat ≤ 57) ∨ (s[k].toNat = 46) ∨ (s[k].toNat = 45) ∨ (s[k].toNat = 95) ∨ ((s[k].toNat < 48 ∧ s[k].toNat ≠ 46 ∧ s[k].toNat ≠ 45)) ∨ ((57 < s[k].toNat ∧ s[k].toNat < 97 ∧ s[k].toNat ≠ 95)) ∨ (122 < s[k].toNat)) with hc | hc | hc | hc | hc | hc | hc | hc
          · have b46 : ((s[k].toNat : Int) != 46) = true := by rw [bne_iff_ne]; omega
            have b45 : ((s[k].toNat : Int) != 45) = true := by rw [bne_iff_ne]; omega
            have b95 : ((s[k].toNat : Int) != 95) = true := by rw [bne_iff_ne]; omega
            have hn : zD2 (s[k].toNat : Int) = true := by simp [zD2, zFl]; omega
            have h1 := hgo hn; clear hgo hno hn; have H1 := Lib.hid h1; clear h1
            have q0 : (97 : Int) ≤ (s[k].toNat : Int) := by omega
            have q1 : (s[k].toNat : Int) ≤ 122 := by omega
            clear hc
            go_wp2
            go_round
            case rel => exact ⟨k + 1, by omega, by go_num, H1.out⟩
            case measure => simp [intOf]; omega
          · have b46 : ((s[k].toNat : Int) != 46) = true := by rw [bne_iff_ne]; omega
            have b45 : ((s[k].toNat : Int) != 45) = true := by rw [bne_iff_ne]; omega
            have b95 : ((s[k].toNat : Int) != 95) = true := by rw [bne_iff_ne]; omega
            have hn : zD2 (s[k].toNat : Int) = true := by simp [zD2, zFl]; omega
            have h1 := hgo hn; clear hgo hno hn; have H1 := Lib.hid h1; clear h1
            have q0 : (48 : Int) ≤ (s[k].toNat : Int) := by omega
            have q1 : (s[k].toNat : Int) ≤ 57 := by omega
            clear hc
            go_wp2
            go_round
            case rel => exact ⟨k + 1, by omega, by go_num, H1.out⟩
            case measure => simp [intOf]; omega
          · have b46 : ((s[k].toNat : Int) != 46) = false := by rw [bne_eq_false_iff_eq]; omega
            have b45 : ((s[k].toNat : Int) != 45) = true := by rw [bne_iff_ne]; omega
            have b95 : ((s[k].toNat : Int) != 95) = true := by rw [bne_iff_ne]; omega
            have hn : zD2 (s[k].toNat : Int) = true := by simp [zD2, zFl]; omega
            have h1 := hgo hn; clear hgo hno hn; have H1 := Lib.hid h1; clear h1
            have q0 : (0 : Int) ≤ (s[k].toNat : Int) := by omega
            have q1 : (s[k].toNat : Int) < 48 := by omega
            clear hc
            go_wp2
            go_round
            case rel => exact ⟨k + 1, by omega, by go_num, H1.out⟩
            case measure => simp [intOf]; omega
          · have b46 : ((s[k].toNat : Int) != 46) = true := by rw [bne_iff_ne]; omega
            have b45 : ((s[k].toNat : Int) != 45) = false := by rw [bne_eq_false_iff_eq]; omega
            have b95 : ((s[k].toNat : Int) != 95) = true := by rw [bne_iff_ne]; omega
            have hn : zD2 (s[k].toNat : Int) = true := by simp [zD2, zFl]; omega
            have h1 := hgo hn; clear hgo hno hn; have H1 := Lib.hid h1; clear h1
            have q0 : (0 : Int) ≤ (s[k].toNat : Int) := by omega
            have q1 : (s[k].toNat : Int) < 48 := by omega
            clear hc
            go_wp2
            go_round
            case rel => exact ⟨k + 1, by omega, by go_num, H1.out⟩
            case measure => simp [intOf]; omega
          · have b46 : ((s[k].toNat : Int) != 46) = true := by rw [bne_iff_ne]; omega
            have b45 : ((s[k].toNat : Int) != 45) = true := by rw [bne_iff_ne]; omega
            have b95 : ((s[k].toNat : Int) != 95) = false := by rw [bne_eq_false_iff_eq]; omega
            have hn : zD2 (s[k].toNat : Int) = true := by simp [zD2, zFl]; omega
            have h1 := hgo hn; clear hgo hno hn; have H1 := Lib.hid h1; clear h1
            have q0 : (57 : Int) < (s[k].toNat : Int) := by omega
            have q1 : (s[k].toNat : Int) < 97 := by omega
            clear hc
            go_wp2
            go_round
            case rel => exact ⟨k + 1, by omega, by go_num, H1.out⟩
            case measure => simp [intOf]; omega
          · have b46 : ((s[k].toNat : Int) != 46) = true := by rw [bne_iff_ne]; omega
            have b45 : ((s[k].toNat : Int) != 45) = true := by rw [bne_iff_ne]; omega
            have b95 : ((s[k].toNat : Int) != 95) = true := by rw [bne_iff_ne]; omega
            have hn : zD2 (s[k].toNat : Int) = false := by simp [zD2, zFl]; omega
            have h1 := hno hn; clear hgo hno hn; have H1 := Lib.hid h1; clear h1
            have q0 : (0 : Int) ≤ (s[k].toNat : Int) := by omega
            have q1 : (s[k].toNat : Int) < 48 := by omega
            clear hc
            go_wp2
            go_ret
            exact ⟨zDu H1.out.symm, rfl⟩
          · have b46 : ((s[k].toNat : Int) != 46) = true := by rw [bne_iff_ne]; omega
            have b45 : ((s[k].toNat : Int) != 45) = true := by rw [bne_iff_ne]; omega
            have b95 : ((s[k].toNat : Int) != 95) = true := by rw [bne_iff_ne]; omega
            have hn : zD2 (s[k].toNat : Int) = false := by simp [zD2, zFl]; omega
            have h1 := hno hn; clear hgo hno hn; have H1 := Lib.hid h1; clear h1
            have q0 : (57 : Int) < (s[k].toNat : Int) := by omega
            have q1 : (s[k].toNat : Int) < 97 := by omega
            clear hc
            go_wp2
            go_ret
            exact ⟨zDu H1.out.symm, rfl⟩
          · have b46 : ((s[k].toNat : Int) != 46) = true := by rw [bne_iff_ne]; omega
            have b45 : ((s[k].toNat : Int) != 45) = true := by rw [bne_iff_ne]; omega
            have b95 : ((s[k].toNat : Int) != 95) = true := by rw [bne_iff_ne]; omega
            have hn : zD2 (s[k].toNat : Int) = false := by simp [zD2, zFl]; omega
            have h1 := hno hn; clear hgo hno hn; have H1 := Lib.hid h1; clear h1
            have q0 : (122 : Int) < (s[k].toNat : Int) := by omega
            clear hc
            go_wp2
            go_ret
            exact ⟨zDu H1.out.symm, rfl⟩
        · have hk' : k = s.size := by omega
          subst hk'
          have hv : zBq s.data.toList = true := by
            have := Hall.out; rw [List.take_of_length_le (by simp)] at this; simp only [zBq, this, Bool.and_true, Bool.and_eq_true, decide_eq_true_eq]; exact ⟨by simpa using h, by simpa using h2⟩
          have Hv := Lib.hid hv; clear hv
          go_wp2
          go_ret
          exact ⟨zDu Hv.out.symm, rfl⟩
    · have hv : zBq s.data.toList = false := by simp [zBq]; omega
      have Hv := Lib.hid hv; clear hv
      go_enter Tryz.func60, Tryz.ntmps60
      go_wp2
      go_ret
      exact ⟨zDu Hv.out.symm, rfl⟩
  · have hv : zBq s.data.toList = false := by simp [zBq]; omega
    have Hv := Lib.hid hv; clear hv
    go_enter Tryz.func60, Tryz.ntmps60
    go_wp2
    go_ret
    exact ⟨zDu Hv.out.symm, rfl⟩
end
section
open Go.RowKit
theorem odd_bits {v : Nat} (hv : v < 4294967296) (h : v % 2 = 1) : bits .and .u32 (v : Int) 1 = 1 ∧ bits .xor .u32 ((v : Int) / 2) 2197175160 = ((zCr v : Nat) : Int) := by
  have e1 : bits .and .u32 (v : Int) 1 = ((v % 2 : Nat) : Int) := by
    have := bits_and_u32_nat v 1 hv (by decide); rw [show ((1 : Nat) : Int) = 1 from rfl] at this; rw [this, show v &&& 1 = v % 2 from Nat.and_two_pow_sub_one_eq_mod v 1]
  refine ⟨by rw [e1, h]; rfl, ?_⟩; have := zCs (v / 2) 2197175160 (by omega) (by decide); rw [show ((v : Int) / 2) = ((v / 2 : Nat) : Int) by omega, show (2197175160 : Int) = ((2197175160 : Nat) : Int) from rfl, this]
  unfold zCr
  rw [if_pos h]
theorem even_bits {v : Nat} (hv : v < 4294967296) (h : v % 2 = 0) : bits .and .u32 (v : Int) 1 = 0 ∧ (v : Int) / 2 = ((zCr v : Nat) : Int) := by
  have e1 : bits .and .u32 (v : Int) 1 = ((v % 2 : Nat) : Int) := by
    have := bits_and_u32_nat v 1 hv (by decide); rw [show ((1 : Nat) : Int) = 1 from rfl] at this; rw [this, show v &&& 1 = v % 2 from Nat.and_two_pow_sub_one_eq_mod v 1]
  refine ⟨by rw [e1, h]; rfl, ?_⟩
  unfold zCr
  rw [if_neg (by omega), Nat.xor_zero]
  omega
set_option maxRecDepth 100000 in
theorem refMore_any {w : World} {b : Value} {l : List UInt8} {s : Nat} (hs : s < 4294967296) (hb : zEm w b (zAm l)) (hlen : l.length ≤ 1073741824) :
    Calls Tryz.prog 82 #[.int .u32 (s : Int), b] w fun e w' => e = .returned (.int .u32 ((zBz s l : Nat) : Int)) ∧ w = w' := by
  have HB := Lib.hid hb; obtain ⟨a, n, c, rfl, hal, ha2⟩ := id hb
  have hal' : n = l.length := by simpa [zAm] using hal
  clear hal; subst hal'; clear hb ha2
  go_enter Tryz.func82, Tryz.ntmps82
  go_wp2
  go_loopg [5, 6] l.length (fun g x i wr => wr = w ∧ ∃ k : Nat, g = l.length - k ∧ k ≤ l.length ∧ i = .int .i64 k ∧ x = .int .u32 ((zEx (4294967295 ^^^ s) (l.take k) : Nat) : Int))
  case atStart => exact ⟨rfl, 0, rfl, Nat.zero_le _, rfl, by rw [not_u32 _ hs]; rfl⟩
  case round =>
    obtain ⟨rfl, k, hg, hk, rfl, rfl⟩ := hrel; subst hg
    by_cases hkl : k < l.length
    · obtain ⟨bb, off, rfl, lt, hc⟩ := HB.out.cell hkl
      have hk' : k < (zAm l).length := by simpa [zAm] using hkl
      have cx := hc k hk'; obtain ⟨x, hlx, hx⟩ := oneU8c l (List.getElem?_eq_getElem hk'); rw [hx] at cx; clear hc hx hk'; have hlt : zEx (4294967295 ^^^ s) (l.take k) < 4294967296 := zFv _ (not_lt hs); obtain ⟨y1, i1, t1, y2, i2, t2, y3, R⟩ := round_at hlt x
      have hnext : zEx (4294967295 ^^^ s) (l.take (k + 1)) = y3 := by
        rw [R.h3, List.take_add_one, hlx, zEx, zEx, List.foldl_append]; rfl
      have Hn := Lib.hid hnext; have H8 := Lib.hid (show crcN 8 y1 = y3 from R.h0); have e1 := R.e1; have b1 := R.b1; generalize zEx (4294967295 ^^^ s) (l.take k) = z at *; clear R hnext hlx
      go_wp2
      try rw [show decide ((k : Int) < (l.length : Int)) = true from by simp; omega]
      go_loopg [5, 7] 8 (fun g x i wi => wi = wr ∧ ∃ m : Nat, g = 8 - m ∧ m ≤ 8 ∧ i = .int .i64 m ∧ x = .int .u32 ((crcN m y1 : Nat) : Int))
      case atStart => exact ⟨rfl, 0, rfl, by omega, rfl, rfl⟩
      case round =>
        obtain ⟨rfl, m, hg, hm, rfl, rfl⟩ := hrel; subst hg; have hv := crcN_lt b1 m; have Hm := Lib.hid (show crcN (m + 1) y1 = zCr (crcN m y1) from rfl)
        by_cases hm8 : m < 8
        · generalize crcN m y1 = v at *
          rcases Nat.mod_two_eq_zero_or_one v with h | h
          · obtain ⟨f1, f2⟩ := even_bits hv h
            generalize zCr v = u at *; clear h
            go_wp2
            go_roundg (8 - (m + 1))
            case measure => omega
            case rel => exact ⟨rfl, m + 1, rfl, by omega, by go_num, by rw [Hm.out]⟩
          · obtain ⟨f1, f2⟩ := odd_bits hv h
            generalize zCr v = u at *; clear h
            go_wp2
            go_roundg (8 - (m + 1))
            case measure => omega
            case rel => exact ⟨rfl, m + 1, rfl, by omega, by go_num, by rw [Hm.out]⟩
        · have hm' : m = 8 := by omega
          subst hm'
          go_wp2
          go_roundg (l.length - (k + 1))
          case measure => omega
          case rel => exact ⟨rfl, k + 1, rfl, by omega, by go_num, by rw [Hn.out, H8.out]⟩
    · have hk' : k = l.length := by omega
      subst hk'
      go_wp2
      go_ret
      refine ⟨?_, rfl⟩
      show Ending.returned (.int .u32 (bits .xor .u32 IntKind.u32.max ((zEx (4294967295 ^^^ s) l : Nat) : Int))) = _
      rw [not_u32 _ (zFv l (not_lt hs))]
      rfl
theorem refSum_any {w : World} {b : Value} {l : List UInt8} (hb : zEm w b (zAm l)) (hlen : l.length ≤ 1073741824) :
    Calls Tryz.prog 44 #[b] w fun e w' => e = .returned (.int .u32 ((zBz 0 l : Nat) : Int)) ∧ w = w' := by
  have HB := Lib.hid hb; obtain ⟨a, n, c, rfl, hal, ha2⟩ := id hb; clear hb hal ha2
  go_enter Tryz.func44, Tryz.ntmps44
  go_wp2_with (go_at_call 82; refine (refMore_any (s := 0) (l := l) (by decide) HB.out hlen).mono ?_; rintro e w1 ⟨rfl, rfl⟩)
  go_ret
  exact ⟨rfl, rfl⟩
end
section
open Go.RowKit
attribute [local irreducible] zAh
variable {g w : World} {L M : List HP} {ad : Nat → Addr} {p : Nat}
def fltV (f : Flt) : Value := .agg #[.int .i64 (f.1 : Nat), .bool f.2.isSome, .int .i64 (f.2.getD 0 : Nat)]
theorem zD0 (hs : Mem g w L) (c : Nat) : Calls Tryz.prog 24 #[.int .i64 c] w (Ret fun v w' => v = fltV (c, none) ∧ Mem g w' L) := hs.calls (bare_any c w)
theorem none_sl (hs : Mem g w L) : Calls Tryz.prog 22 #[] w (Ret fun v w' => v = fltV (0, none) ∧ Mem g w' L) := by
  refine zAf Tryz.func22 rfl rfl ?_
  skip
  refine zA3 (zA1 ?_); refine zBn hs rfl ze42 ?_; clear hs; intro b0 w hs
  try simp only [zzs, zzz] at hs
  refine zA6 (zA3 (zA1 ?_)); refine zA rfl (zBs (cs := [.int .i64 0, .bool false, .int .i64 0]) uz42 ze42 pl42 rfl) ?_; refine zAn hs 0 rfl rfl rfl zE4 rfl rfl ?_; clear hs; intro w hs
  try simp only [zzs, zzz] at hs
  refine zA6 ?_; refine zAc ?_; refine resG [(.cell 0 42, .agg _)] rfl ⟨⟨_, rfl, zC2 hs 0 rfl uz42 zE4⟩, trivial⟩ ?_; exact ⟨_, rfl, rfl, hs.tail⟩
theorem zEd (hs : Mem g w L) {c : Nat} (hc : c ≠ 0) (q : Nat) : Calls Tryz.prog 26 #[.int .i64 c, .int .i64 q] w (Ret fun v w' => v = fltV (c, some q) ∧ Mem g w' L) := by
  refine zAf Tryz.func26 rfl rfl ?_
  skip
  refine zA3 (zA1 ?_); refine zBn hs rfl ze42 ?_; clear hs; intro b4 w hs
  try simp only [zzs, zzz] at hs
  refine zA6 ?_; refine zA3 ?_; refine zA3 (zA1 ?_); refine zA rfl (zA2 (v := .int .i64 _) rfl) ?_; refine zA rfl (zBo rfl rfl) ?_; refine zA6 ?_; refine zB4 rfl (decide_eq_false (by omega)) ?_; refine zAd ?_; refine zA3 (zA1 ?_); refine zA rfl (zA2 (v := .int .i64 _) rfl) ?_; refine zA rfl (zA2 (v := .int .i64 _) rfl) ?_; refine zA rfl (zC0 ([.int .i64 c, .bool true, .int .i64 q]) uz42 ze42 pl42 rfl (by simp [Value.cells]) rfl rfl) ?_; refine zAn hs 0 rfl rfl rfl zE4 rfl rfl ?_; clear hs; intro w hs
  try simp only [zzs, zzz] at hs
  refine zA6 ?_; refine zAc ?_; refine resG [(.cell 4 42, .agg _)] rfl ⟨⟨_, rfl, zC2 hs 0 rfl uz42 zE4⟩, trivial⟩ ?_; exact ⟨_, rfl, rfl, hs.tail⟩
theorem rRight_sl (hs : Mem g w L) (n : Int) : Calls Tryz.prog 57 #[.int .i64 n] w (Ret fun v w' => v = .bool (zEc n) ∧ Mem g w' L) := by
  refine zAf Tryz.func57 rfl rfl ?_
  skip
  refine zA3 (zA1 ?_); refine zA rfl (zA0 (v := .bool _) rfl) ?_; refine zA6 (zA3 (zA1 ?_)); refine zA rfl (zA2 (v := .int .i64 _) rfl) ?_; refine zA rfl (zCw rfl rfl) ?_; refine zA rfl (zA2 (v := .bool _) rfl) ?_; refine zB0 (t := _) (d := 5) rfl ?_ ?_
  ·
   intro h4; have g4 := of_decide_eq_true h4; refine zAi rfl rfl h4 ?_; refine zA rfl (zA2 (v := .int .i64 _) rfl) ?_; refine zAi rfl rfl h4 ?_; refine zA rfl (zDx rfl rfl) ?_; refine zA rfl (zAk (v := .bool _) rfl h4 rfl) ?_; refine zA rfl (zA0 (v := .bool _) rfl) ?_; refine zA6 ?_; refine zAc ?_; refine zBd (v := .bool _) rfl rfl ?_; exact ⟨_, rfl, zD6 (by rw [Bool.eq_iff_iff]; simp [zEc]; omega), hs⟩
  ·
   intro h4; have g4 := of_decide_eq_false h4; refine zA9 rfl rfl rfl h4 ?_; refine zA9 rfl rfl rfl h4 ?_; refine zA rfl (zAg (v := .bool _) rfl h4 rfl) ?_; refine zA rfl (zA0 (v := .bool _) rfl) ?_; refine zA6 ?_; refine zAc ?_; refine zBd (v := .bool _) rfl rfl ?_; exact ⟨_, rfl, zD6 (by rw [Bool.eq_iff_iff]; simp [zEc]; omega), hs⟩
theorem rEpoch_sl (hs : Mem g w L) (n : Int) : Calls Tryz.prog 102 #[.int .i64 n] w (Ret fun v w' => v = .bool (rightE n) ∧ Mem g w' L) := by
  refine zAf Tryz.func102 rfl rfl ?_
  skip
  refine zA3 (zA1 ?_); refine zA rfl (zA0 (v := .bool _) rfl) ?_; refine zA6 (zA3 (zA1 ?_)); refine zA rfl (zA2 (v := .int .i64 _) rfl) ?_; refine zA rfl (zCw rfl rfl) ?_; refine zA rfl (zA2 (v := .bool _) rfl) ?_; refine zB0 (t := _) (d := 5) rfl ?_ ?_
  ·
   intro h4; have g4 := of_decide_eq_true h4; refine zAi rfl rfl h4 ?_; refine zA rfl (zA2 (v := .int .i64 _) rfl) ?_; refine zAi rfl rfl h4 ?_; refine zA rfl (zDx rfl rfl) ?_; refine zA rfl (zAk (v := .bool _) rfl h4 rfl) ?_; refine zA rfl (zA0 (v := .bool _) rfl) ?_; refine zA6 ?_; refine zAc ?_; refine zBd (v := .bool _) rfl rfl ?_; exact ⟨_, rfl, zD6 (by rw [Bool.eq_iff_iff]; simp [rightE]; omega), hs⟩
  ·
   intro h4; have g4 := of_decide_eq_false h4; refine zA9 rfl rfl rfl h4 ?_; refine zA9 rfl rfl rfl h4 ?_; refine zA rfl (zAg (v := .bool _) rfl h4 rfl) ?_; refine zA rfl (zA0 (v := .bool _) rfl) ?_; refine zA6 ?_; refine zAc ?_; refine zBd (v := .bool _) rfl rfl ?_; exact ⟨_, rfl, zD6 (by rw [Bool.eq_iff_iff]; simp [rightE]; omega), hs⟩
theorem rTime_sl (hs : Mem g w L) (n : Int) : Calls Tryz.prog 58 #[.int .i64 n] w (Ret fun v w' => v = .bool (rightT n) ∧ Mem g w' L) := by
  refine zAf Tryz.func58 rfl rfl ?_
  skip
  refine zA3 (zA1 ?_); refine zA rfl (zA0 (v := .bool _) rfl) ?_; refine zA6 (zA3 (zA1 ?_)); refine zA rfl (zA2 (v := .int .i64 _) rfl) ?_; refine zA rfl (zCw rfl rfl) ?_; refine zA rfl (zA2 (v := .bool _) rfl) ?_; refine zB0 (t := _) (d := 5) rfl ?_ ?_
  ·
   intro h4; have g4 := of_decide_eq_true h4; refine zAi rfl rfl h4 ?_; refine zA rfl (zA2 (v := .int .i64 _) rfl) ?_; refine zAi rfl rfl h4 ?_; refine zA rfl (zDx rfl rfl) ?_; refine zA rfl (zAk (v := .bool _) rfl h4 rfl) ?_; refine zA rfl (zA0 (v := .bool _) rfl) ?_; refine zA6 ?_; refine zAc ?_; refine zBd (v := .bool _) rfl rfl ?_; exact ⟨_, rfl, zD6 (by rw [Bool.eq_iff_iff]; simp [rightT]; omega), hs⟩
  ·
   intro h4; have g4 := of_decide_eq_false h4; refine zA9 rfl rfl rfl h4 ?_; refine zA9 rfl rfl rfl h4 ?_; refine zA rfl (zAg (v := .bool _) rfl h4 rfl) ?_; refine zA rfl (zA0 (v := .bool _) rfl) ?_; refine zA6 ?_; refine zAc ?_; refine zBd (v := .bool _) rfl rfl ?_; exact ⟨_, rfl, zD6 (by rw [Bool.eq_iff_iff]; simp [rightT]; omega), hs⟩
theorem all_no {l : List Pr} {x : Nat} {y : Pr} (hy : l[x]? = some y) (h : prOk y = false) : l.all prOk = false := Bool.eq_false_iff.2 (fun h2 => absurd ((List.all_eq_true.1 h2 y (List.mem_of_getElem? hy)).symm.trans h) (by decide))
theorem rPairs_sl (hs : Mem g w L) {a : Option Addr} {n c : Nat} {l : List Pr} (hr : RdK g L 2 (.slice a n c) (l.map prL)) (hn : n = l.length) : Calls Tryz.prog 59 #[.slice a n c] w (Ret fun v w' => v = .int .i64 (epF l : Nat) ∧ Mem g w' L) := by
  subst hn; refine zAf Tryz.func59 rfl rfl ?_
  skip
  refine zA3 (zA1 ?_); refine zA rfl (zA0 (v := .int .i64 _) rfl) ?_; refine zA6 ?_; refine zA3 ?_; refine zA3 (zA1 ?_); refine zA rfl (zA2 (v := .slice _ _ _) rfl) ?_; refine zA rfl (zAt zDq rfl) ?_; refine zA rfl (zBl rfl rfl) ?_; refine zA6 ?_; refine zB rfl ?_ ?_
  ·
   intro h7; have g7 := of_decide_eq_true h7; refine zA3 (zA1 ?_); refine zA rfl (zA0 (v := .int .i64 _) rfl) ?_; refine zA6 ?_; refine zAc ?_; refine zBd (v := .int .i64 _) rfl rfl ?_; exact ⟨_, rfl, by rw [epF, if_pos (by omega)]; rfl, hs⟩
  ·
   intro h7; have g7 := of_decide_eq_false h7; refine zAd ?_; refine zA3 ?_; refine zA3 (zA1 ?_); refine zA rfl (zA0 (v := .int .i64 _) rfl) ?_; refine zA6 ?_; refine zAo ?_; refine zBr (X := Nat) [2, 3, 8, 9, 10, 11, 12, 13, 14, 15, 16, 17, 18, 19, 20, 21, 22, 23, 24, 25, 26, 27, 28, 29] (fun k => [(3, .int .i64 (k : Nat))]) (fun k w => k ≤ l.length ∧ (l.take k).all prOk = true ∧ Mem g w L) (fun k => l.length - k) (0) ?_ ?_ ?_
   · exact ⟨rfl, trivial⟩
   · exact ⟨Nat.zero_le _, rfl, hs⟩
   clear hs; rintro x ξ w hI; obtain ⟨hk, hq, hs⟩ := hI; refine zA3 ?_; refine zA3 (zA1 ?_); refine zA rfl (zA2 (v := .int .i64 _) rfl) ?_; refine zA rfl (zA2 (v := .slice _ _ _) rfl) ?_; refine zA rfl (zAt zDq rfl) ?_; refine zA rfl (zB9 rfl rfl) ?_; refine zA6 ?_; refine zB rfl ?_ ?_
   ·
    intro h11; have g11 := of_decide_eq_true h11; obtain ⟨y, hy⟩ : ∃ y, l[x]? = some y := ⟨_, List.getElem?_eq_getElem (by omega)⟩; obtain ⟨b1, o1, rfl⟩ := hr.at hs (by rw [zEj]; omega); refine zAd ?_; refine zA3 ?_; refine zAo ?_; refine zA3 (zA1 ?_); refine zA rfl (zA2 (v := .slice _ _ _) rfl) ?_; refine zA rfl (zA2 (v := .int .i64 _) rfl) ?_; refine zA rfl (zAs zDq sz46 rfl rfl rfl (by omega) rfl) ?_; refine zA rfl (zA4 uz46 rfl sz3 rfl rfl rfl) ?_; refine zA rfl (zA7 uz3 rfl rfl (hr.cell hs (zE5 hy) (j := 0) rfl)) ?_; refine zAb rfl en102 (rEpoch_sl hs y.1) ?_; clear hs; rintro _ w ⟨rfl, hs⟩; refine zA rfl (zBt rfl) ?_; refine zA rfl (zA2 (v := .bool _) rfl) ?_
    refine zB0 (t := _) (d := 21) rfl ?_ ?_
    ·
     intro h19; replace h19 := zEu h19; refine zA9 rfl rfl rfl (zCd h19) ?_; refine zA9 rfl rfl rfl (zCd h19) ?_; refine zA9 rfl rfl rfl (zCd h19) ?_; refine zA9 rfl rfl rfl (zCd h19) ?_; refine zA9 rfl rfl rfl (zCd h19) ?_; refine zA9 rfl rfl rfl (zCd h19) ?_; refine zA9 rfl rfl rfl (zCd h19) ?_; refine zA rfl (zAk (v := .bool _) rfl (zCd h19) rfl) ?_; refine zA6 ?_; refine zB6 rfl rfl ?_; refine zA3 (zA1 ?_); refine zA rfl (zA0 (v := .int .i64 _) rfl) ?_; refine zA6 ?_; refine zAc ?_; refine zBd (v := .int .i64 _) rfl rfl ?_
     have e : prOk y = false := by simp [prOk, h19]
     exact ⟨_, rfl, by rw [epF, if_neg (by omega), if_pos (all_no hy e)]; rfl, hs⟩
    ·
     intro h19; replace h19 := zE0 h19; refine zAi rfl rfl (zBj h19) ?_; refine zA rfl (zA2 (v := .slice _ _ _) rfl) ?_; refine zAi rfl rfl (zBj h19) ?_; refine zA rfl (zA2 (v := .int .i64 _) rfl) ?_; refine zAi rfl rfl (zBj h19) ?_; refine zA rfl (zAs zDq sz46 rfl rfl rfl (by omega) rfl) ?_; refine zAi rfl rfl (zBj h19) ?_; refine zA rfl (zA4 uz46 rfl sz2 rfl rfl rfl) ?_; refine zAi rfl rfl (zBj h19) ?_; refine zA rfl (zA7 uz2 rfl rfl (hr.cell hs (zE5 hy) (j := 1) rfl)) ?_; refine zAi rfl rfl (zBj h19) ?_; refine zAb rfl en57 (rRight_sl hs y.2) ?_; clear hs; rintro _ w ⟨rfl, hs⟩; refine zAi rfl rfl (zBj h19) ?_; refine zA rfl (zBt rfl) ?_
     refine zA rfl (zAg (v := .bool _) rfl (zBj h19) rfl) ?_; refine zA6 ?_; refine zB rfl ?_ ?_
     ·
      intro h27; replace h27 := zEu h27; refine zA3 (zA1 ?_); refine zA rfl (zA0 (v := .int .i64 _) rfl) ?_; refine zA6 ?_; refine zAc ?_; refine zBd (v := .int .i64 _) rfl rfl ?_
      have e : prOk y = false := by simp [prOk, h27]
      exact ⟨_, rfl, by rw [epF, if_neg (by omega), if_pos (all_no hy e)]; rfl, hs⟩
     ·
      intro h27; replace h27 := zE0 h27; refine zAd ?_; refine zA1 ?_; refine zA rfl (zA2 (v := .int .i64 _) rfl) ?_; refine zA rfl (zAu rfl rfl rfl (inI (by omega) (by omega))) ?_; refine zA rfl (zA0 (v := .int .i64 _) rfl) ?_; refine zA6 ?_; exact ⟨x + 1, by omega, ⟨by omega, by rw [List.take_add_one, hy]; simp [hq, prOk, h19, h27], hs⟩, ⟨rfl, trivial⟩, by repeat (first | exact Out.mix _ _ _ | refine Out.updo rfl ?_ | refine Out.upd rfl ?_ | refine Out.mixIn rfl ?_)⟩
   ·
    intro h11; have g11 := of_decide_eq_false h11
    have hall : l.all prOk = true := by have e : x = l.length := (by omega); rw [e, List.take_length] at hq; exact hq
    refine zBp rfl ?_; refine zA3 ?_; refine zA3 (zA1 ?_); refine zA rfl (zA0 (v := .int .i64 _) rfl) ?_; refine zA6 ?_; refine zAo ?_; refine zBr (X := Nat) [2, 4, 30, 31, 32, 33, 34, 35, 36, 37, 38, 39, 40, 41, 42, 43, 44, 45, 46, 47, 48, 49, 50, 51, 52, 53, 54, 55, 56, 57, 58, 59, 60, 61] (fun k => [(4, .int .i64 (k : Nat))]) (fun k w => 1 ≤ k ∧ (∀ i, 1 ≤ i → i < k → i < l.length → risAt l i = true) ∧ Mem g w L) (fun k => l.length - k) (1) ?_ ?_ ?_
    · exact ⟨rfl, trivial⟩
    · exact ⟨Nat.le_refl _, fun i h1 h2 => by omega, hs⟩
    clear hs; rintro x ξ w hI; obtain ⟨hk1, hq1, hs⟩ := hI; refine zA3 ?_; refine zA3 (zA1 ?_); refine zA rfl (zA2 (v := .int .i64 _) rfl) ?_; refine zA rfl (zA2 (v := .slice _ _ _) rfl) ?_; refine zA rfl (zAt zDq rfl) ?_; refine zA rfl (zB9 rfl rfl) ?_; refine zA6 ?_; refine zB rfl ?_ ?_
    ·
     intro h33; have g33 := of_decide_eq_true h33; obtain ⟨y, hy⟩ : ∃ y, l[x]? = some y := ⟨_, List.getElem?_eq_getElem (by omega)⟩; obtain ⟨y0, hy0⟩ : ∃ y, l[x - 1]? = some y := ⟨_, List.getElem?_eq_getElem (by omega)⟩; obtain ⟨b1, o1, rfl⟩ := hr.at hs (by rw [zEj]; omega); have hra := risAt_eq hy0 hy; refine zAd ?_; refine zA3 ?_; refine zAo ?_; refine zA3 ?_; refine zAp zBk hs ?_; intro w tr hK; replace hs := tr _ hs; clear tr; refine zA5 0 rfl rfl (fun w hs => zA2 (v := .slice _ _ _) rfl) hK ?_; refine zA5 1 rfl rfl (fun w hs => zA2 (v := .int .i64 _) rfl) hK ?_; refine zA5 2 rfl rfl (fun w hs => zAs zDq sz46 rfl rfl rfl (by omega) rfl) hK ?_
     refine zA5 3 rfl rfl (fun w hs => zA4 uz46 rfl sz3 rfl rfl rfl) hK ?_; refine zA5 4 rfl rfl (fun w hs => zA7 uz3 rfl rfl (hr.cell hs (zE5 hy) (j := 0) rfl)) hK ?_; refine zA5 5 rfl rfl (fun w hs => zA2 (v := .slice _ _ _) rfl) hK ?_; refine zA5 6 rfl rfl (fun w hs => zA2 (v := .int .i64 _) rfl) hK ?_; refine zA5 7 rfl rfl (fun w hs => zC8 rfl rfl (c := ((x - 1 : Nat) : Int)) (by omega) (inI (by omega) (by omega))) hK ?_; refine zA5 8 rfl rfl (fun w hs => zAs zDq sz46 rfl rfl rfl (by omega) rfl) hK ?_; refine zA5 9 rfl rfl (fun w hs => zA4 uz46 rfl sz3 rfl rfl rfl) hK ?_; refine zA5 10 rfl rfl (fun w hs => zA7 uz3 rfl rfl (hr.cell hs (zE5 hy0) (j := 0) rfl)) hK ?_
     refine zA5 11 rfl rfl (fun w hs => zDx rfl rfl) hK ?_; refine zA5 12 rfl rfl (fun w hs => zA2 (v := .bool _) rfl) hK ?_; refine zGb (t := _) (d := 48) rfl ?_ ?_
     ·
      intro h47; have g47 := of_decide_eq_true h47; refine zAj 13 rfl rfl rfl rfl h47 hK ?_; refine zAj 14 rfl rfl rfl rfl h47 hK ?_; refine zAj 15 rfl rfl rfl rfl h47 hK ?_; refine zAj 16 rfl rfl rfl rfl h47 hK ?_; refine zAj 17 rfl rfl rfl rfl h47 hK ?_; refine zAj 18 rfl rfl rfl rfl h47 hK ?_; refine zAj 19 rfl rfl rfl rfl h47 hK ?_; refine zAj 20 rfl rfl rfl rfl h47 hK ?_; refine zAj 21 rfl rfl rfl rfl h47 hK ?_; refine zAj 22 rfl rfl rfl rfl h47 hK ?_; refine zAj 23 rfl rfl rfl rfl h47 hK ?_; refine zAj 24 rfl rfl rfl rfl h47 hK ?_; refine zA5 25 rfl rfl (fun w hs => zAk (v := .bool _) rfl h47 rfl) hK ?_; refine zAr (by kernel_rfl) ?_; clear hK; refine zB6 rfl rfl ?_
      refine zA3 (zA1 ?_); refine zA rfl (zA0 (v := .int .i64 _) rfl) ?_; refine zA6 ?_; refine zAc ?_; refine zBd (v := .int .i64 _) rfl rfl ?_; exact ⟨_, rfl, by rw [epF, if_neg (by omega), if_neg (by rw [hall]; decide), if_pos (ris_no hk1 (by omega) (by rw [hra]; simp; omega))]; rfl, hs⟩
     ·
      intro h47; have g47 := of_decide_eq_false h47; refine zAq 13 rfl rfl rfl rfl h47 (fun w hs => zA2 (v := .slice _ _ _) rfl) hK ?_; refine zAq 14 rfl rfl rfl rfl h47 (fun w hs => zA2 (v := .int .i64 _) rfl) hK ?_; refine zAq 15 rfl rfl rfl rfl h47 (fun w hs => zAs zDq sz46 rfl rfl rfl (by omega) rfl) hK ?_; refine zAq 16 rfl rfl rfl rfl h47 (fun w hs => zA4 uz46 rfl sz2 rfl rfl rfl) hK ?_; refine zAq 17 rfl rfl rfl rfl h47 (fun w hs => zA7 uz2 rfl rfl (hr.cell hs (zE5 hy) (j := 1) rfl)) hK ?_; refine zAq 18 rfl rfl rfl rfl h47 (fun w hs => zA2 (v := .slice _ _ _) rfl) hK ?_; refine zAq 19 rfl rfl rfl rfl h47 (fun w hs => zA2 (v := .int .i64 _) rfl) hK ?_
      refine zAq 20 rfl rfl rfl rfl h47 (fun w hs => zC8 rfl rfl (c := ((x - 1 : Nat) : Int)) (by omega) (inI (by omega) (by omega))) hK ?_; refine zAq 21 rfl rfl rfl rfl h47 (fun w hs => zAs zDq sz46 rfl rfl rfl (by omega) rfl) hK ?_; refine zAq 22 rfl rfl rfl rfl h47 (fun w hs => zA4 uz46 rfl sz2 rfl rfl rfl) hK ?_; refine zAq 23 rfl rfl rfl rfl h47 (fun w hs => zA7 uz2 rfl rfl (hr.cell hs (zE5 hy0) (j := 1) rfl)) hK ?_; refine zAq 24 rfl rfl rfl rfl h47 (fun w hs => zDx rfl rfl) hK ?_; refine zA5 25 rfl rfl (fun w hs => zAg (v := .bool _) rfl h47 rfl) hK ?_; refine zAr (by kernel_rfl) ?_; clear hK; refine zB rfl ?_ ?_
      ·
       intro h60; have g60 := of_decide_eq_true h60; refine zA3 (zA1 ?_); refine zA rfl (zA0 (v := .int .i64 _) rfl) ?_; refine zA6 ?_; refine zAc ?_; refine zBd (v := .int .i64 _) rfl rfl ?_; exact ⟨_, rfl, by rw [epF, if_neg (by omega), if_neg (by rw [hall]; decide), if_pos (ris_no hk1 (by omega) (by rw [hra]; simp; omega))]; rfl, hs⟩
      ·
       intro h60; have g60 := of_decide_eq_false h60; refine zAd ?_; refine zA1 ?_; refine zA rfl (zA2 (v := .int .i64 _) rfl) ?_; refine zA rfl (zAu rfl rfl rfl (inI (by omega) (by omega))) ?_; refine zA rfl (zA0 (v := .int .i64 _) rfl) ?_; refine zA6 ?_; exact ⟨x + 1, by omega, ⟨by omega, (fun i h1 h2 h3 => by rcases Nat.lt_or_ge i x with h | h; exact hq1 i h1 h h3; obtain rfl : i = x := (by omega); rw [hra]; simp; omega), hs⟩, ⟨rfl, trivial⟩, by repeat (first | exact Out.mix _ _ _ | refine Out.updo rfl ?_ | refine Out.upd rfl ?_ | refine Out.mixIn rfl ?_)⟩
    ·
     intro h33; have g33 := of_decide_eq_false h33; refine zBp rfl ?_; refine zA3 (zA1 ?_); refine zA rfl (zA0 (v := .int .i64 _) rfl) ?_; refine zA6 ?_; refine zAc ?_; refine zBd (v := .int .i64 _) rfl rfl ?_; exact ⟨_, rfl, by rw [epF, if_neg (by omega), if_neg (by rw [hall]; decide), if_neg (by rw [ris_iff.2 (fun i h1 h2 => hq1 i h1 (by omega) h2)]; decide)]; rfl, hs⟩
end
end Go.Proofs.YthejaanobeonnaaGreatDoor
