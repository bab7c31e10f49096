/- The disk in memory: chunks. -/
import Derived.Test.YtmnfehbnjgmgjaaDoorZc
import Derived.Test.YtmnfehbnjgmgjaaDoorZb
import Derived.Test.YtmnfehbnjgmgjaaDoorZa
namespace Go.Proofs.YtmnfehbnjgmgjaaDoor
set_option linter.all false
open Go.RowKit
variable {g w : World} {L M : List HP} {p : Nat} {d : Dk} {ptr : List (Nat × Nat)}

def fptr (ptr : List (Nat × Nat)) (i : Nat) : Value := .pointer ((aget ptr i).map fun b => ⟨b, 0, none⟩)
theorem fptr_some {i b : Nat} (h : aget ptr i = some b) : fptr ptr i = .pointer (some ⟨b, 0, none⟩) := by simp [fptr, h]
/-- Names as they stand in a map. -/
def nmV (ptr : List (Nat × Nat)) (l : List (ByteArray × Nat)) : List (ByteArray × Value) := l.map fun x => (x.1, fptr ptr x.2)
theorem nmV_get (l : List (ByteArray × Nat)) (n : ByteArray) : aget (nmV ptr l) n = (aget l n).map (fptr ptr) := by
  induction l with
  | nil => rfl
  | cons x l ih =>
    obtain ⟨a, b⟩ := x
    simp only [nmV, List.map_cons, aget] at ih ⊢
    split
    · rfl
    · exact ih
theorem nmV_put (l : List (ByteArray × Nat)) (n : ByteArray) (i : Nat) : nmV ptr (aput l n i) = aput (nmV ptr l) n (fptr ptr i) := by
  induction l with
  | nil => rfl
  | cons x l ih =>
    obtain ⟨a, b⟩ := x
    simp only [nmV, List.map_cons, aput] at ih ⊢
    split
    · simp
    · simp only [List.map_cons, ih]
theorem nmV_del (l : List (ByteArray × Nat)) (n : ByteArray) : nmV ptr (adel l n) = adel (nmV ptr l) n := by
  induction l with
  | nil => rfl
  | cons x l ih =>
    obtain ⟨a, b⟩ := x
    simp only [nmV, List.map_cons, adel] at ih ⊢
    split
    · rfl
    · simp only [List.map_cons, ih]
theorem nmV_keys (l : List (ByteArray × Nat)) : keysOf (nmV ptr l) = keysOf l := by simp [nmV, keysOf, List.map_map, Function.comp_def]
/-- A new file turns no name. -/
theorem nmV_more {l : List (ByteArray × Nat)} {k b : Nat} (h : ∀ x ∈ l, x.2 ≠ k) : nmV (aput ptr k b) l = nmV ptr l := by
  unfold nmV
  refine List.map_congr_left fun x hx => ?_
  simp only [fptr]
  rw [aget_put_other _ _ (h x hx)]
/-- A file: its block, its bytes. -/
def flC (b : Nat) (f : Fl) : HP := ex fun v : Option Addr × Nat => stars [cells b [.int .i64 f.id, .slice v.1 f.b.length v.2, .int .i64 f.syn] 115, own (.slice v.1 f.b.length v.2) (bytesL f.b)]
theorem Mem.openF {b : Nat} {f : Fl} (hs : Mem g w (flC b f :: L)) : ∃ a c, Mem g w (cells b [.int .i64 f.id, .slice a f.b.length c, .int .i64 f.syn] 115 :: own (.slice a f.b.length c) (bytesL f.b) :: L) := by
  obtain ⟨⟨a, c⟩, h⟩ := hs.unex
  exact ⟨a, c, h.unstars⟩
theorem Mem.closeF {b : Nat} {f : Fl} {a : Option Addr} {c : Nat} (hs : Mem g w (cells b [.int .i64 f.id, .slice a f.b.length c, .int .i64 f.syn] 115 :: own (.slice a f.b.length c) (bytesL f.b) :: L)) : Mem g w (flC b f :: L) :=
  Mem.ex (f := fun v : Option Addr × Nat => Go.Proofs.YtmnfehbnjgmgjaaDoor.stars [cells b [.int .i64 f.id, .slice v.1 f.b.length v.2, .int .i64 f.syn] 115, own (.slice v.1 f.b.length v.2) (bytesL f.b)]) (a, c) (Mem.stars (M := [cells b [.int .i64 f.id, .slice a f.b.length c, .int .i64 f.syn] 115, own (.slice a f.b.length c) (bytesL f.b)]) hs)
/-- A change, as it stands in memory. -/
def chgV (ptr : List (Nat × Nat)) (c : Chg) : List Value := [.string c.name, .string c.gone, match c.f with | some i => fptr ptr i | none => .pointer none]
theorem chgV_more {cs : List Chg} {k b : Nat} (h : ∀ c ∈ cs, ∀ i, c.f = some i → i ≠ k) : cs.map (chgV (aput ptr k b)) = cs.map (chgV ptr) := by
  refine List.map_congr_left fun c hc => ?_
  unfold chgV
  cases hf : c.f with
  | none => rfl
  | some i => simp only [fptr]; rw [aget_put_other _ _ (h c hc i hf)]
abbrev mapS (m : Nat) (es : List (ByteArray × Value)) : HP := mapC Value.string m es
def diskL (mn mk : Nat) (d : Dk) (sa : Option Addr) (sc : Nat) : List Value := [.int .i64 d.room, .map (some mn), .map (some mk), .slice sa d.changes.length sc, .int .i64 d.files, .int .i64 d.armed, .bool d.down, .int .i64 d.calls]
/-- The chunks of a disk. -/
abbrev diskParts (p : Nat) (d : Dk) (mn mk : Nat) (sa : Option Addr) (sc : Nat) (ptr : List (Nat × Nat)) : List HP :=
  [cells p (diskL mn mk d sa sc) 110, mapS mn (nmV ptr d.names), mapS mk (nmV ptr d.kept), rowK 3 (.slice sa d.changes.length sc) (d.changes.map (chgV ptr)), famC flC ptr d.fs]
def DiskC (p : Nat) (d : Dk) : HP := ex fun x : Nat × Nat × Option Addr × Nat × List (Nat × Nat) => also (stars (diskParts p d x.1 x.2.1 x.2.2.1 x.2.2.2.1 x.2.2.2.2)) d.ok
theorem Mem.openD (hs : Mem g w (DiskC p d :: L)) : d.ok ∧ ∃ mn mk sa sc ptr, Mem g w (diskParts p d mn mk sa sc ptr ++ L) := by
  obtain ⟨⟨mn, mk, sa, sc, ptr⟩, h⟩ := hs.unex
  obtain ⟨h1, h2⟩ := h.unalso
  exact ⟨h1, mn, mk, sa, sc, ptr, h2.unstars⟩
theorem Mem.closeD {mn mk : Nat} {sa : Option Addr} {sc : Nat} (ho : d.ok) (hs : Mem g w (diskParts p d mn mk sa sc ptr ++ L)) : Mem g w (DiskC p d :: L) :=
  Mem.ex (f := fun x : Nat × Nat × Option Addr × Nat × List (Nat × Nat) => Go.Proofs.YtmnfehbnjgmgjaaDoor.also (Go.Proofs.YtmnfehbnjgmgjaaDoor.stars (diskParts p d x.1 x.2.1 x.2.2.1 x.2.2.2.1 x.2.2.2.2)) d.ok) (mn, mk, sa, sc, ptr) (Mem.also ho hs.stars)
theorem Mem.closeD1 {C : HP} {mn mk : Nat} {sa : Option Addr} {sc : Nat} (ho : d.ok) (hs : Mem g w (C :: (diskParts p d mn mk sa sc ptr ++ L))) : Mem g w (C :: DiskC p d :: L) :=
  (Mem.closeD (L := C :: L) ho (hs.arr [1, 2, 3, 4, 5, 0] 6 (by decide))).arr [1, 0] 2 (by decide)
/-- Files lie apart: who lies in one block is one. -/
theorem fam_inj {i j b : Nat} (hs : Mem g w L) (k : Nat) (hk : L[k]? = some (famC flC ptr d.fs)) (hi : aget ptr i = some b) (hj : aget ptr j = some b) : i = j := by
  obtain ⟨F, G, h1, h2, h3, h4, h5⟩ := hs.read hk
  refine Classical.byContradiction fun hne => ?_
  obtain ⟨f, hf⟩ := aget_of_key (h1 ▸ aget_keys hi : i ∈ keysOf d.fs)
  obtain ⟨f', hf'⟩ := aget_of_key (h1 ▸ aget_keys hj : j ∈ keysOf d.fs)
  obtain ⟨v, F1, F2, ⟨_, e1⟩, _, _, e2⟩ := h2 i b f id hi hf
  obtain ⟨v', F1', F2', ⟨_, e1'⟩, _, _, e2'⟩ := h2 j b f' id hj hf'
  exact h3 i j b hne ((e2 b).2 (.inl ((e1 b).2 rfl))) ((e2' b).2 (.inl ((e1' b).2 rfl)))
/-- What is known of a file that has a number. -/
theorem Dk.okB.ptrOf (ho : d.okB) (hs : Mem g w L) (k : Nat) (hk : L[k]? = some (famC flC ptr d.fs)) {i : Nat} (hi : i ∈ keysOf d.fs) : ∃ b, aget ptr i = some b ∧ fptr ptr i = .pointer (some ⟨b, 0, none⟩) ∧ aget d.fs i = some (d.fl i) := by
  have h1 := hs.famKeys k hk
  obtain ⟨b, hb⟩ := aget_of_key (h1 ▸ hi : i ∈ keysOf ptr)
  exact ⟨b, hb, fptr_some hb, ho.fl_some hi⟩
/-- A file's length as it lies there. -/
theorem Mem.flCells (hs : Mem g w L) (k : Nat) (hk : L[k]? = some (famC flC ptr d.fs)) {i b : Nat} {f : Fl} (hb : aget ptr i = some b) (hf : aget d.fs i = some f) : ∃ a c, w.cell? ⟨b, 0, none⟩ = some (.int .i64 f.id) ∧ w.cell? ⟨b, 1, none⟩ = some (.slice a f.b.length c) ∧ w.cell? ⟨b, 2, none⟩ = some (.int .i64 f.syn) := by
  have h1 := hs.famTake k hk hb hf
  obtain ⟨a, c, h2⟩ := h1.openF
  exact ⟨a, c, h2.cellAt 0 rfl (o := 0) rfl, h2.cellAt 0 rfl (o := 1) rfl, h2.cellAt 0 rfl (o := 2) rfl⟩
end Go.Proofs.YtmnfehbnjgmgjaaDoor
