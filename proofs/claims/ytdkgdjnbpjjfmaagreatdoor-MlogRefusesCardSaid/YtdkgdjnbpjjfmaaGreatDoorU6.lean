/- DERIVED: THE SHELF's CONTRACTS AT THIS DUMP, IN PLAIN WORDS (tools/lay-plain.mjs out of 'YtdkgdjnbpjjfmaaGreatDoorSh1S.lean', which tools/lay-shelf.mjs wrote): THE SAME DECLARATIONS UNDER THE SAME NAMES: 'import', 'namespace', 'open', 'def', 'theorem' AND NOTHING ELSE: no command of the shelf's: FOR A HAND-IN. Each laying: the table of numbers ('.._ren') and one theorem, a field a fact of the dump's own or the kernel's comparison; each contract: ONE APPLICATION. maps.Clone, slices.SortFunc, slices.Contains over files: over chunks. The disk, over chunks: SyncDir, Crash. The disk, over chunks: Crash. Chapter 4: the examples; what a test of an error tells. The law DiskKeeps: what was synced, under a name that was synced, is there behind any crash. The law DiskCuts: what is cut is cut, synced at once. The law DiskDown: while the power is gone nothing is changed or told. The law DiskRooms: all files together have at most the room. What a Write of what is kept aside leaves, in plain words; whatever the power does. Names with what is kept under each, in plain words: Writes, crashes. Names with what stands under each, byte by byte: Writes, bytes laid behind, cuts, crashes. What is kept aside: Write, Read, over chunks. The remote log: its chunk; what it has when it is opened. The remote log: Open, Snap, Append; whatever the power does. The remote log: Append. The document's Make; the manifests of the statements. The statements' entries. The remote log as the statements see it. What an error is as plain data: with a place, too. Errors as the statements see them, bare or with a place. The disk's List: slices.Sorted(maps.Keys(m)) at strings; SameTexts. -/
import Derived.Test.YtdkgdjnbpjjfmaaGreatDoorU5
import Derived.Shelf.SlMaps.Clone
import Derived.Shelf.SlSortCmp.Whole1
import Derived.Shelf.SlSortCmp.NoneTotal
import Derived.Shelf.SortM.Plain
import Derived.Test.YtdkgdjnbpjjfmaaGreatDoorU2
import Derived.Test.YtdkgdjnbpjjfmaaGreatDoorU3
import Derived.LaidEql
import Derived.Test.YtdkgdjnbpjjfmaaGreatDoorU1
import Derived.Test.YtdkgdjnbpjjfmaaGreatDoorU4
namespace Go.Proofs
open Go.Shelf
def Tryz.mclone66_ren : Go.Shelf.Ren := ⟨fun | 5 => 66 | 7 => 107 | n => n, fun | 23 => 69 | 25 => 9 | 3 => 90 | 4 => 4 | 20 => 20 | n => n, fun | n => n⟩
theorem Tryz.mclone66 : Go.Proofs.SlLaysW.n5 Tryz.prog Tryz.mclone66_ren := {
  mixed := by kernel_rfl
  f5 := ⟨Tryz.f66.name, by decide, Tryz.func66.trans (congrArg some (by kernel_rfl))⟩
  f7 := Tryz.func107.trans (congrArg some (by kernel_rfl))
  t4 := Tryz.underlying4
  a4 := Tryz.isAgg4
  z4 := Tryz.sizeOf4
  v4 := Tryz.zeroValue4
  t20 := Tryz.underlying20
  a20 := Tryz.isAgg20
  z20 := Tryz.sizeOf20
  v20 := Tryz.zeroValue20
  t23 := Tryz.underlying69
  a23 := Tryz.isAgg69
  z23 := Tryz.sizeOf69
  v23 := Tryz.zeroValue69 }
def Tryz.sortf64_ren : Go.Shelf.Ren := ⟨fun | 6 => 64 | 15 => 106 | 14 => 105 | 28 => 141 | 29 => 142 | 20 => 133 | 21 => 134 | 22 => 135 | 23 => 136 | 24 => 137 | 25 => 138 | 26 => 139 | 27 => 140 | 46 => 166 | 47 => 167 | 48 => 168 | 49 => 169 | 50 => 170 | 57 => 187 | n => n, fun | 22 => 122 | 24 => 90 | 25 => 125 | 3 => 3 | 39 => 156 | 0 => 0 | 53 => 111 | 55 => 100 | 4 => 4 | 46 => 199 | 45 => 198 | 50 => 203 | 5 => 5 | 9 => 9 | 66 => 222 | 70 => 226 | 76 => 239 | 77 => 240 | n => n, fun | n => n⟩
end Go.Proofs
namespace Go.Proofs.YtdkgdjnbpjjfmaaGreatDoor
set_option linter.all false
open Go.RowKit Go.Sort Go.Shelf
variable {g w : World} {L M : List HP} {ad : Nat → Addr} {d : Dk} {ptr : List (Nat × Nat)}

theorem mclone_sl (hs : Mem g w L) (i : Nat) {m : Nat} {es : List (ByteArray × Value)} (hi : L[i]? = some (mapS m es)) : Calls Tryz.prog 66 #[.map (some m)] w (Ret fun v w' => ∃ m', v = .map (some m') ∧ Mem g w' (mapS m' es :: L)) := by
  obtain ⟨F, ⟨⟨arr, clock, hb, he, hst⟩, _⟩⟩ := hs.read hi
  refine (AnyW.maps_Clone Tryz.mclone66 m arr clock w hb).mono ?_
  rintro e w' ⟨rfl, rfl⟩
  exact ⟨_, rfl, w.heap.size, rfl, hs.add (F' := fun x => x = w.heap.size) ⟨⟨arr, clock, World.alloc_heap_new w _, he, hst⟩, fun _ => Iff.rfl⟩ (fun _ h => Nat.le_of_eq h.symm) ((Keeps.refl _ _).alloc _)⟩

/-! ### slices.SortFunc -/
end Go.Proofs.YtdkgdjnbpjjfmaaGreatDoor
namespace Go.Proofs.YtdkgdjnbpjjfmaaGreatDoor
set_option linter.all false
open Go.RowKit
attribute [local irreducible] zAo
variable {g w : World} {L M : List HP} {ad : Nat → Addr} {p mn mk sc : Nat} {sa : Option Addr} {d : Dk} {ptr : List (Nat × Nat)}

/-! ### small words -/
section
variable {P : Program} {ρ : Env} {dst : Option Tmp} {ty : TypeId} {pos : String} {aft : Array Edge}
end
/-- One cell of a block. -/
def hold (b o : Nat) (v : Value) : HP where
  ok F w := w.cell? ⟨b, o, none⟩ = some v ∧ b < w.heap.size ∧ ∀ x, F x ↔ x = b
  loc := fun {F w w'} ⟨h1, h2, h3⟩ k => by
    have hk := k b ((h3 b).2 rfl)
    refine ⟨?_, lt_keep h2 hk, h3⟩
    simp only [World.cell?] at h1 ⊢
    rw [hk]; exact h1
  lt := fun ⟨_, h2, h3⟩ hb => by rw [(h3 _).1 hb]; exact h2
theorem syncDir_sl (hE : ErrK ad g) (hs : Mem g w (zBv p d :: L)) (hcl : d.calls < 1000000) {k : Nat} {d2 : Dk} (hk : d.syncDir = (k, d2)) : Calls Tryz.prog 35 #[.pointer (some ⟨p, 0, none⟩)] w (Ret fun v w' => v = zAo ad k ∧ Mem g w' (zBv p d2 :: L)) := by
  obtain ⟨ho, mn, mk, sa, sc, ptr, hs⟩ := hs.openD
  have hb := d.begin_same
  have hbc := d.begin_code
  have ho1 := ho.begin
  refine zAm Tryz.func35 rfl rfl ?_
  skip
  refine zA5 (zA1 ?_)
  refine zA rfl (zA2 (v := .nilIface) rfl) ?_
  refine zA4 ?_
  refine zA5 ?_
  refine zA5 (zA1 ?_)
  refine zA rfl (zA0 (v := .pointer (some _)) rfl) ?_
  refine zAa rfl en73 (begin_sl hE ho hs) ?_
  clear hs
  rintro _ w ⟨rfl, hs⟩
  refine zA rfl (zA2 (v := zAo ad _) rfl) ?_
  refine zA4 (zA5 (zA1 ?_))
  refine zA rfl (zA0 (v := zAo ad _) rfl) ?_
  refine zA rfl (zAy (ad := ad) rfl) ?_
  refine zA4 ?_
  refine zB7 rfl ?_ ?_
  ·
   intro h7
   have g7 := ne_t h7
   refine zA5 (zA1 ?_)
   refine zA rfl (zA0 (v := zAo ad _) rfl) ?_
   refine zA rfl (zA2 (v := zAo ad _) rfl) ?_
   refine zA4 ?_
   refine zAf ?_
   refine zBg (v := zAo ad _) rfl rfl ?_
   have hb1 : d.begin.1 ≠ 0 := by simpa using h7
   have e : d.syncDir = (110, d.begin.2) := by simp [Dk.syncDir, hb1]
   rw [e] at hk
   cases hk
   rw [show d.begin.1 = 110 by omega]
   exact ⟨_, rfl, rfl, Mem.closeD ho1 hs⟩
  ·
   intro h7
   have g7 := ne_f h7
   refine zAd ?_
   refine zA5 (zA1 ?_)
   refine zA rfl (zA0 (v := .pointer (some _)) rfl) ?_
   refine zA rfl (zA0 (v := .pointer (some _)) rfl) ?_
   refine zA rfl (zA0 (v := .pointer (some _)) rfl) ?_
   refine zA rfl (zA8 rfl) ?_
   refine zA rfl (zA3 (o' := 1) zF7 rfl sz69 rfl rfl rfl) ?_
   refine zA rfl (zA7 uz69 rfl rfl (hs.cellAt 0 rfl rfl)) ?_
   refine zAa rfl en66 (mclone_sl hs 1 rfl) ?_
   clear hs
   rintro _ w ⟨m15, rfl, hs⟩
   refine zA rfl (zA8 rfl) ?_
   refine zA rfl (zA3 (o' := 2) zF7 rfl sz69 rfl rfl rfl) ?_
   refine zAv (v := .map _) hs 1 rfl sz69 rfl rfl rfl rfl ?_
   clear hs
   intro w hs
   try simp only [List.set_cons_succ, List.set_cons_zero] at hs
   refine zA rfl (zA8 rfl) ?_
   refine zA rfl (zA3 (o' := 3) zF7 rfl sz70 rfl rfl rfl) ?_
   refine zAv (v := .slice _ _ _) hs 1 rfl sz70 rfl rfl rfl rfl ?_
   clear hs
   intro w hs
   try simp only [List.set_cons_succ, List.set_cons_zero] at hs
   refine zA4 (zA5 (zA1 ?_))
   refine zA rfl (zA0 (v := .pointer (some _)) rfl) ?_
   refine zA rfl (zA8 rfl) ?_
   refine zA rfl (zA3 (o' := 7) zF7 rfl sz3 rfl rfl rfl) ?_
   refine zA rfl (zA7 uz3 rfl rfl (hs.cellAt 1 rfl rfl)) ?_
   refine zA rfl (zAp rfl rfl rfl (inI (by omega) (by omega))) ?_
   refine zA rfl (zA8 rfl) ?_
   refine zA rfl (zA3 (o' := 7) zF7 rfl sz3 rfl rfl rfl) ?_
   refine zAv (v := .int .i64 _) hs 1 rfl sz3 rfl rfl rfl rfl ?_
   clear hs
   intro w hs
   try simp only [List.set_cons_succ, List.set_cons_zero] at hs
   refine zA4 (zA5 (zA1 ?_))
   refine zA rfl (zA2 (v := .nilIface) rfl) ?_
   refine zA4 ?_
   refine zAf ?_
   refine zBg (v := .nilIface) rfl rfl ?_
   have hb1 : d.begin.1 = 0 := by simpa using h7
   have e : d.syncDir = (0, { d.begin.2 with kept := d.begin.2.names, changes := [], calls := d.begin.2.calls + 1 }) := by simp [Dk.syncDir, hb1]
   rw [e] at hk
   cases hk
   exact ⟨_, rfl, (zB2 ad).symm, Mem.closeD (mn := mn) (mk := m15) (sa := none) (sc := 0) (ptr := ptr) ho1.syncDir ((hs.addE (rows_nil _)).arr [2, 3, 1, 0, 6] 7 (by decide))⟩
end Go.Proofs.YtdkgdjnbpjjfmaaGreatDoor
namespace Go.Proofs.YtdkgdjnbpjjfmaaGreatDoor
set_option linter.all false
open Go.RowKit
attribute [local irreducible] zAo
variable {g w : World} {L M : List HP} {ad : Nat → Addr} {p mn mk sc : Nat} {sa : Option Addr} {d : Dk} {ptr : List (Nat × Nat)}

end Go.Proofs.YtdkgdjnbpjjfmaaGreatDoor
namespace Go.Proofs.YtdkgdjnbpjjfmaaGreatDoor
set_option linter.all false
open Go.RowKit
attribute [local irreducible] zAo
variable {g w : World} {L M : List HP} {ad : Nat → Addr} {p : Nat} {d : Dk}

theorem isA_sl (hE : ErrA ad g) (hs : Mem g w L) {d : Nat} (hd : d = 0 ∨ d ∈ allCodes) (c : Int) : Calls Tryz.prog 27 #[zAo ad d, .int .i64 c] w (Ret fun v w' => v = .bool (decide ((d : Int) = c)) ∧ Mem g w' L) := by
  have := hs.calls (is_any (hE.atW hs) hs.size hd c)
  rw [int_beq] at this
  exact this
abbrev nm1 (c : UInt8) : ByteArray := ⟨#[c]⟩
/-- The disk of the examples. -/
abbrev fD (kept : List (ByteArray × Nat)) (ch : List Chg) (calls : Nat) (b : List UInt8) (s : Nat) : Dk := ⟨100, [(nm1 97, 1)], kept, ch, 1, 0, false, calls, [(1, ⟨1, b, s⟩)]⟩
end Go.Proofs.YtdkgdjnbpjjfmaaGreatDoor
namespace Go.Proofs.YtdkgdjnbpjjfmaaGreatDoor
set_option linter.all false
open Go.RowKit
attribute [local irreducible] zAo
variable {g w : World} {L M : List HP} {ad : Nat → Addr} {p : Nat} {d : Dk}

theorem Dk.readR_at {n : ByteArray} {i o m : Nat} {F : Fl} (h1 : d.down = false) (hn : zB1 d.names n = some i) (hf : zB1 d.fs i = some F) (hl : o + m ≤ F.b.length) : d.readR n o m = (0, (F.b.take (o + m)).drop o) := by
  have e : d.fl i = F := by simp [Dk.fl, hf]
  simp only [Dk.readR, Dk.file, h1, hn, Bool.false_eq_true, if_false, e]
  rw [if_neg (by omega)]
  simp
abbrev kD (names kept : List (ByteArray × Nat)) (ch : List Chg) (files calls : Nat) (fs : List (Nat × Fl)) : Dk := ⟨2000, names, kept, ch, files, 0, false, calls, fs⟩
abbrev chG : Chg := ⟨nm1 103, ByteArray.empty, some 2⟩
end Go.Proofs.YtdkgdjnbpjjfmaaGreatDoor
namespace Go.Proofs.YtdkgdjnbpjjfmaaGreatDoor
set_option linter.all false
open Go.RowKit
attribute [local irreducible] zAo
variable {g w : World} {L M : List HP} {ad : Nat → Addr} {p : Nat} {d : Dk}

/-- A disk of one file. -/
abbrev oneD (room : Nat) (n : ByteArray) (kept : List (ByteArray × Nat)) (ch : List Chg) (calls : Nat) (b : List UInt8) (s : Nat) : Dk := ⟨room, [(n, 1)], kept, ch, 1, 0, false, calls, [(1, ⟨1, b, s⟩)]⟩
end Go.Proofs.YtdkgdjnbpjjfmaaGreatDoor
namespace Go.Proofs.YtdkgdjnbpjjfmaaGreatDoor
set_option linter.all false
open Go.RowKit
attribute [local irreducible] zAo
variable {g w : World} {L M : List HP} {ad : Nat → Addr} {p : Nat} {d : Dk}

theorem Dk.begin_down (h : d.down = true) : d.begin = (110, d) := by simp [Dk.begin, h]
theorem Dk.find_down (h : d.down = true) (n : ByteArray) : d.find n = (110, none, d) := by simp [Dk.find, Dk.begin_down h]
theorem Dk.cut_down (h : d.down = true) (n : ByteArray) (z : Int) : d.cut n z = (110, d) := by simp only [Dk.cut, Dk.find_down h]
/-- The disk while the power is gone. -/
abbrev dnD (lb : List UInt8) : Dk := ⟨500, [(nm1 97, 1)], [(nm1 97, 1)], [], 1, 0, true, 4, [(1, ⟨1, lb, lb.length⟩)]⟩
end Go.Proofs.YtdkgdjnbpjjfmaaGreatDoor
namespace Go.Proofs.YtdkgdjnbpjjfmaaGreatDoor
set_option linter.all false
open Go.RowKit
attribute [local irreducible] zAo
variable {g w : World} {L M : List HP} {ad : Nat → Addr} {p : Nat} {d : Dk}

def nmI (i : Nat) : ByteArray := nm1 (UInt8.ofNat (97 + i))
theorem nmI_valid : ∀ i < 20, zC1 (nmI i).data.toList = true := by decide +kernel
theorem nmI_inj {i j : Nat} (hi : i < 20) (hj : j < 20) (h : nmI i = nmI j) : i = j := by
  simp only [nmI, nm1, ByteArray.mk.injEq, Array.mk.injEq, List.cons.injEq, and_true] at h
  have := congrArg UInt8.toNat h
  rw [UInt8.toNat_ofNat', UInt8.toNat_ofNat'] at this
  omega
theorem zBp {κ α : Type} [DecidableEq κ] {l : List (κ × α)} {k : κ} {v : α} (h : k ∉ zAg l) : zB1 (l ++ [(k, v)]) k = some v := by rw [← aput_end h, zB8]
theorem zD4 {κ α : Type} [DecidableEq κ] {l : List (κ × α)} {k j : κ} {v : α} (h : k ∉ zAg l) (hj : j ≠ k) : zB1 (l ++ [(k, v)]) j = zB1 l j := by rw [← aput_end h, zB0 _ _ hj]
theorem adel_app_new {κ α : Type} [DecidableEq κ] : ∀ {l : List (κ × α)} {k : κ} {v : α}, k ∉ zAg l → zDq (l ++ [(k, v)]) k = l
  | [], k, v, _ => by simp [zDq]
  | (a, b) :: l, k, v, h => by
    simp only [zAg, List.map_cons, List.mem_cons, not_or] at h
    simp only [List.cons_append, zDq]
    rw [if_neg (fun e => h.1 e.symm), adel_app_new h.2]
theorem aput_app_new {κ α : Type} [DecidableEq κ] {l : List (κ × α)} {k : κ} {v v' : α} (h : k ∉ zAg l) : zC9 (l ++ [(k, v)]) k v' = l ++ [(k, v')] := by
  induction l with
  | nil => simp [zC9]
  | cons x l ih =>
    obtain ⟨a, b⟩ := x
    simp only [zAg, List.map_cons, List.mem_cons, not_or] at h
    simp only [List.cons_append, zC9]
    rw [if_neg (fun e => h.1 e.symm), ih h.2]
def useL (fs : List (Nat × Fl)) (l : List (ByteArray × Nat)) : Nat := (l.map fun x => ((zB1 fs x.2).map (·.b.length)).getD 0).sum
theorem useL_snoc {fs : List (Nat × Fl)} {l : List (ByteArray × Nat)} {k : Nat} {F : Fl} (n : ByteArray) (hk : k ∉ zAg fs) (hl : ∀ x ∈ l, x.2 ∈ zAg fs) : useL (fs ++ [(k, F)]) (l ++ [(n, k)]) = useL fs l + F.b.length := by
  simp only [useL, List.map_append, List.sum_append, List.map_cons, List.map_nil, zBp hk]
  congr 1
  · congr 1
    exact List.map_congr_left fun x hx => by rw [zD4 hk (fun e => hk (e ▸ hl x hx))]
/-- What holds at the i-th file. -/
structure RoomI (room i u : Nat) (d : Dk) : Prop where
  ok : d.ok
  up : d.down = false
  arm : d.armed = 0
  rm : d.room = room
  files : d.files = i
  calls : d.calls ≤ 3 * i
  names : ∀ x ∈ d.names, ∃ j, j < i ∧ x.1 = nmI j
  used : u = d.used
  fits : u ≤ room
theorem RoomI.fresh {room i u : Nat} (h : RoomI room i u d) (hi : i < 20) : nmI i ∉ zAg d.names := fun hm => by
  obtain ⟨x, hx, e⟩ := List.mem_map.1 hm
  obtain ⟨j, hj, e2⟩ := h.names x hx
  have := nmI_inj (by omega) hi (e2.symm.trans e)
  omega
/-- Behind the file that is made, with bytes or without. -/
def roomD (d : Dk) (i : Nat) (b : List UInt8) (c : Nat) : Dk := ⟨d.room, d.names ++ [(nmI i, i + 1)], d.kept, d.changes ++ [⟨nmI i, ByteArray.empty, some (i + 1)⟩], i + 1, 0, false, d.calls + c, d.fs ++ [(i + 1, ⟨i + 1, b, 0⟩)]⟩
theorem RoomI.key {room i u : Nat} (h : RoomI room i u d) : i + 1 ∉ zAg d.fs := by have := h.ok.fresh; rw [h.files] at this; exact this
theorem RoomI.create {room i u : Nat} (h : RoomI room i u d) (hi : i < 20) : d.create (nmI i) = (0, roomD d i [] 1) := by
  rw [Dk.create_up h.up h.arm (nmI_valid i hi) ((zBa _ _).2 (h.fresh hi))]
  simp only [Dk.change, Chg.app, roomD, h.files, h.up, h.arm, aput_end (h.fresh hi), if_true]
theorem RoomI.used_of {room i u : Nat} (h : RoomI room i u d) (b : List UInt8) (c : Nat) : (roomD d i b c).used = u + b.length := by
  show useL (d.fs ++ [(i + 1, ⟨i + 1, b, 0⟩)]) (d.names ++ [(nmI i, i + 1)]) = _
  rw [useL_snoc _ h.key h.ok.nin, h.used]
  rfl
theorem RoomI.named {room i u : Nat} (h : RoomI room i u d) (hi : i < 20) (b : List UInt8) (c : Nat) : zB1 (roomD d i b c).names (nmI i) = some (i + 1) := zBp (h.fresh hi)
theorem RoomI.append {room i u : Nat} (h : RoomI room i u d) (hi : i < 20) (b : List UInt8) (hf : u + b.length ≤ room) : (roomD d i [] 1).append (nmI i) b = (0, roomD d i b 2) := by
  have hu := h.used_of [] 1
  rw [Dk.append_up rfl rfl (h.named hi [] 1) (by rw [hu]; show _ ≤ d.room; rw [h.rm]; simpa using hf)]
  have hfl : (roomD d i [] 1).fl (i + 1) = ⟨i + 1, [], 0⟩ := by simp [Dk.fl, roomD, zBp h.key]
  rw [hfl]
  simp only [Dk.setF, roomD, aput_app_new h.key, List.nil_append]
theorem RoomI.lenR {room i u : Nat} (h : RoomI room i u d) (hi : i < 20) (b : List UInt8) (c : Nat) : (roomD d i b c).lenR (nmI i) = (0, b.length) := by
  have e : (roomD d i b c).file (nmI i) = (0, some (i + 1)) := by
    unfold Dk.file
    rw [h.named hi b c]
    rfl
  simp only [Dk.lenR, e]
  simp [Dk.fl, roomD, zBp h.key]
def roomR (d : Dk) (i : Nat) (b : List UInt8) (c : Nat) : Dk := ⟨d.room, d.names, d.kept, d.changes ++ [⟨nmI i, ByteArray.empty, some (i + 1)⟩] ++ [⟨ByteArray.empty, nmI i, none⟩], i + 1, 0, false, d.calls + c + 1, d.fs ++ [(i + 1, ⟨i + 1, b, 0⟩)]⟩
theorem RoomI.remove {room i u : Nat} (h : RoomI room i u d) (hi : i < 20) (b : List UInt8) (c : Nat) : (roomD d i b c).remove (nmI i) = (0, roomR d i b c) := by
  rw [Dk.remove_up rfl rfl (h.named hi b c)]
  have hne : nmI i ≠ ByteArray.empty := fun e => absurd (congrArg (fun b : ByteArray => b.data.size) e) (by show ¬ 1 = 0; decide)
  simp only [Dk.change, Chg.app, roomD, roomR, if_neg hne, adel_app_new (h.fresh hi)]
theorem RoomI.next {room i u : Nat} (h : RoomI room i u d) {b : List UInt8} {c : Nat} (hc : c ≤ 2) (ho : (roomD d i b c).ok) (hf : u + b.length ≤ room) : RoomI room (i + 1) (u + b.length) (roomD d i b c) :=
  ⟨ho, rfl, rfl, h.rm, rfl, by have := h.calls; show d.calls + c ≤ _; omega, fun x hx => by
    rcases List.mem_append.1 hx with hx | hx
    · obtain ⟨j, hj, e⟩ := h.names x hx; exact ⟨j, by omega, e⟩
    · simp only [List.mem_cons, List.not_mem_nil, or_false] at hx; subst hx; exact ⟨i, by omega, rfl⟩, (h.used_of b c).symm, hf⟩
end Go.Proofs.YtdkgdjnbpjjfmaaGreatDoor
namespace Go.Proofs.YtdkgdjnbpjjfmaaGreatDoor
set_option linter.all false
open Go.RowKit
variable {d : Dk} {s t : ByteArray} {b : List UInt8}

/-- The disk d with other names, changes, files. -/
abbrev pw (d : Dk) (l : List (ByteArray × Nat)) (ch : List Chg) (n : Nat) (fs : List (Nat × Fl)) (a : Nat) (dn : Bool) (c : Nat) : Dk := ⟨d.room, l, d.kept, ch, n, a, dn, c, fs⟩
theorem pw_begin {l : List (ByteArray × Nat)} {ch : List Chg} {n : Nat} {fs : List (Nat × Fl)} {a c : Nat} : (pw d l ch n fs a false c).begin = if a = 1 then (110, pw d l ch n fs 0 true c) else (0, pw d l ch n fs (a - 1) false c) := by
  unfold Dk.begin
  by_cases h0 : a = 0
  · subst h0; rfl
  · by_cases h1 : a = 1
    · subst h1; rfl
    · simp [h0, h1]
theorem pw_find {l : List (ByteArray × Nat)} {ch : List Chg} {n : Nat} {fs : List (Nat × Fl)} {a c i : Nat} {m : ByteArray} (hm : zB1 l m = some i) : (pw d l ch n fs a false c).find m = if a = 1 then (110, none, pw d l ch n fs 0 true c) else (0, some i, pw d l ch n fs (a - 1) false c) := by
  unfold Dk.find
  rw [pw_begin]
  by_cases h1 : a = 1
  · simp [h1]
  · simp [h1, Dk.file, hm]
theorem adel_none {κ α : Type} [DecidableEq κ] : ∀ {l : List (κ × α)} {k : κ}, zB1 l k = none → zDq l k = l
  | [], _, _ => rfl
  | (a, b) :: l, k, h => by
    simp only [zB1] at h
    split at h
    · cases h
    · rename_i e
      simp only [zDq]
      rw [if_neg e, adel_none h]
abbrev rmC (t : ByteArray) : Chg := ⟨ByteArray.empty, t, none⟩
abbrev crC (t : ByteArray) (j : Nat) : Chg := ⟨t, ByteArray.empty, some j⟩
abbrev rnC (s t : ByteArray) (j : Nat) : Chg := ⟨s, t, some j⟩
theorem newN_ne (s : ByteArray) : zC4 s ≠ s := fun e => by
  have := congrArg (fun x : ByteArray => x.size) e
  simp only [zC4, ByteArray.size_append] at this
  have h4 : (⟨#[46, 110, 101, 119]⟩ : ByteArray).size = 4 := rfl
  omega
theorem newN_some (s : ByteArray) : zC4 s ≠ ByteArray.empty := fun e => by
  have := congrArg (fun x : ByteArray => x.size) e
  simp only [zC4, ByteArray.size_append] at this
  have h4 : (⟨#[46, 110, 101, 119]⟩ : ByteArray).size = 4 := rfl
  have h0 : ByteArray.empty.size = 0 := rfl
  omega
/-- Names without the one beside. -/
def wl (s : ByteArray) (d : Dk) : List (ByteArray × Nat) := zDq d.names (zC4 s)
def wc (s : ByteArray) (d : Dk) : List Chg := d.changes ++ (if (zB1 d.names (zC4 s)).isSome then [rmC (zC4 s)] else [])
structure UpD (d : Dk) : Prop where
  ok : d.ok
  up : d.down = false
structure Calm (d : Dk) : Prop extends UpD d where
  kept : d.names = d.kept
  still : d.changes = []
theorem UpD.fresh (h : UpD d) : zC4 s ∉ zAg (wl s d) := by
  rw [wl, keys_del h.ok.nnd]
  simp
theorem UpD.key (h : UpD d) : d.files + 1 ∉ zAg d.fs := h.ok.fresh
theorem UpD.form (h : UpD d) : d = pw d d.names d.changes d.files d.fs d.armed false d.calls := by
  have h1 := h.up
  obtain ⟨room, names, kept, changes, files, armed, down, calls, fs⟩ := d
  simp only at h1
  subst h1
  rfl
section
variable (h : UpD d) {a c : Nat}
include h
theorem UpD.st0 : (pw d d.names d.changes d.files d.fs a false c).wstep s b 0 = if (zB1 d.names (zC4 s)).isSome = true ∧ a = 1 then (110, pw d d.names d.changes d.files d.fs 0 true c) else (0, pw d (wl s d) (wc s d) d.files d.fs (if (zB1 d.names (zC4 s)).isSome then a - 1 else a) false (if (zB1 d.names (zC4 s)).isSome then c + 1 else c)) := by
  cases hn : zB1 d.names (zC4 s) with
  | none =>
    have h1 : (pw d d.names d.changes d.files d.fs a false c).lenR (zC4 s) = (107, 0) := by simp [Dk.lenR, Dk.file, hn]
    simp only [Dk.wstep, h1, wl, wc, hn, adel_none hn]
    simp
  | some i =>
    obtain ⟨m, h1⟩ : ∃ m, (pw d d.names d.changes d.files d.fs a false c).lenR (zC4 s) = (0, m) := ⟨_, by simp only [Dk.lenR, Dk.file, hn]; rfl⟩
    simp only [Dk.wstep, h1, Dk.remove, pw_find hn]
    by_cases ha : a = 1
    · simp [ha]
    · simp [ha, wl, wc, hn, Dk.change, Chg.app, newN_some]
theorem UpD.st1 (hv : zC1 (zC4 s).data.toList = true) : (pw d (wl s d) (wc s d) d.files d.fs a false c).wstep s b 1 = if a = 1 then (110, pw d (wl s d) (wc s d) d.files d.fs 0 true c) else (0, pw d (wl s d ++ [(zC4 s, d.files + 1)]) (wc s d ++ [crC (zC4 s) (d.files + 1)]) (d.files + 1) (d.fs ++ [(d.files + 1, ⟨d.files + 1, [], 0⟩)]) (a - 1) false (c + 1)) := by
  have hf := (zBa _ _).2 (h.fresh (s := s))
  simp only [Dk.wstep, Dk.create, pw_begin]
  by_cases ha : a = 1
  · simp [ha]
  · simp only [if_neg ha, hv, hf, Dk.change, Chg.app]
    simp
    exact aput_end h.fresh
theorem UpD.st2 (hr : useL d.fs (wl s d) + (b.length + 4) ≤ d.room) : (pw d (wl s d ++ [(zC4 s, d.files + 1)]) (wc s d ++ [crC (zC4 s) (d.files + 1)]) (d.files + 1) (d.fs ++ [(d.files + 1, ⟨d.files + 1, [], 0⟩)]) a false c).wstep s b 2 = if a = 1 then (110, pw d (wl s d ++ [(zC4 s, d.files + 1)]) (wc s d ++ [crC (zC4 s) (d.files + 1)]) (d.files + 1) (d.fs ++ [(d.files + 1, ⟨d.files + 1, [], 0⟩)]) 0 true c) else (0, pw d (wl s d ++ [(zC4 s, d.files + 1)]) (wc s d ++ [crC (zC4 s) (d.files + 1)]) (d.files + 1) (d.fs ++ [(d.files + 1, ⟨d.files + 1, zBm b, 0⟩)]) (a - 1) false (c + 1)) := by
  have hf : zB1 (wl s d ++ [(zC4 s, d.files + 1)]) (zC4 s) = some (d.files + 1) := zBp h.fresh
  have hin : ∀ x ∈ wl s d, x.2 ∈ zAg d.fs := fun x hx => h.ok.nin x (adel_in hx)
  simp only [Dk.wstep, Dk.append, pw_find hf]
  by_cases ha : a = 1
  · simp [ha]
  · simp only [if_neg ha]
    have hu : ∀ a c, (pw d (wl s d ++ [(zC4 s, d.files + 1)]) (wc s d ++ [crC (zC4 s) (d.files + 1)]) (d.files + 1) (d.fs ++ [(d.files + 1, ⟨d.files + 1, [], 0⟩)]) a false c).used = useL d.fs (wl s d) := fun a c => (useL_snoc _ h.key hin).trans (by simp)
    rw [if_neg (by rw [hu, zBs]; show ¬ (d.room < _); omega)]
    have hfl : ∀ a c, (pw d (wl s d ++ [(zC4 s, d.files + 1)]) (wc s d ++ [crC (zC4 s) (d.files + 1)]) (d.files + 1) (d.fs ++ [(d.files + 1, ⟨d.files + 1, [], 0⟩)]) a false c).fl (d.files + 1) = ⟨d.files + 1, [], 0⟩ := fun a c => by simp [Dk.fl, zBp h.key]
    rw [hfl]
    simp [Dk.setF, aput_app_new h.key]
theorem UpD.st3 : (pw d (wl s d ++ [(zC4 s, d.files + 1)]) (wc s d ++ [crC (zC4 s) (d.files + 1)]) (d.files + 1) (d.fs ++ [(d.files + 1, ⟨d.files + 1, zBm b, 0⟩)]) a false c).wstep s b 3 = if a = 1 then (110, pw d (wl s d ++ [(zC4 s, d.files + 1)]) (wc s d ++ [crC (zC4 s) (d.files + 1)]) (d.files + 1) (d.fs ++ [(d.files + 1, ⟨d.files + 1, zBm b, 0⟩)]) 0 true c) else (0, pw d (wl s d ++ [(zC4 s, d.files + 1)]) (wc s d ++ [crC (zC4 s) (d.files + 1)]) (d.files + 1) (d.fs ++ [(d.files + 1, ⟨d.files + 1, zBm b, (zBm b).length⟩)]) (a - 1) false (c + 1)) := by
  have hf : zB1 (wl s d ++ [(zC4 s, d.files + 1)]) (zC4 s) = some (d.files + 1) := zBp h.fresh
  simp only [Dk.wstep, Dk.sync, pw_find hf]
  by_cases ha : a = 1
  · simp [ha]
  · simp only [if_neg ha]
    have hfl : ∀ a c, (pw d (wl s d ++ [(zC4 s, d.files + 1)]) (wc s d ++ [crC (zC4 s) (d.files + 1)]) (d.files + 1) (d.fs ++ [(d.files + 1, ⟨d.files + 1, zBm b, 0⟩)]) a false c).fl (d.files + 1) = ⟨d.files + 1, zBm b, 0⟩ := fun a c => by simp [Dk.fl, zBp h.key]
    rw [hfl]
    simp [Dk.setF, aput_app_new h.key]
theorem UpD.st4 {fs : List (Nat × Fl)} (hv : zC1 s.data.toList = true) : (pw d (wl s d ++ [(zC4 s, d.files + 1)]) (wc s d ++ [crC (zC4 s) (d.files + 1)]) (d.files + 1) fs a false c).wstep s b 4 = if a = 1 then (110, pw d (wl s d ++ [(zC4 s, d.files + 1)]) (wc s d ++ [crC (zC4 s) (d.files + 1)]) (d.files + 1) fs 0 true c) else (0, pw d (zC9 (wl s d) s (d.files + 1)) (wc s d ++ [crC (zC4 s) (d.files + 1)] ++ [rnC s (zC4 s) (d.files + 1)]) (d.files + 1) fs (a - 1) false (c + 1)) := by
  have hf : zB1 (wl s d ++ [(zC4 s, d.files + 1)]) (zC4 s) = some (d.files + 1) := zBp h.fresh
  simp only [Dk.wstep, Dk.rename, pw_find hf]
  by_cases ha : a = 1
  · simp [ha]
  · simp only [if_neg ha]
    rw [if_neg (by simp [hv]), if_neg (newN_ne s)]
    simp only [Dk.change, Chg.app, if_neg (newN_some s), adel_app_new h.fresh]
end
theorem pw_st5 {l : List (ByteArray × Nat)} {ch : List Chg} {n : Nat} {fs : List (Nat × Fl)} {a c : Nat} : (pw d l ch n fs a false c).wstep s b 5 = if a = 1 then (110, pw d l ch n fs 0 true c) else (0, ⟨d.room, l, l, [], n, a - 1, false, c + 1, fs⟩) := by
  simp only [Dk.wstep, Dk.syncDir, pw_begin]
  by_cases ha : a = 1
  · simp [ha]
  · simp [ha]

/-- What the power may have left of a Write: the names that were synced, changes that touch two names alone; the file that is to be is whole once it takes the name. -/
structure Mid (d : Dk) (s : ByteArray) (b : List UInt8) (e : Dk) : Prop where
  len : ∀ i F, zB1 e.fs i = some F → zB1 d.fs i = some F ∨ F.b.length ≤ b.length + 4
  room : e.room = d.room
  kept : e.kept = d.kept
  old : ∀ i F, zB1 d.fs i = some F → zB1 e.fs i = some F
  chs : ∀ c ∈ e.changes, c ∈ d.changes ∨ c = rmC (zC4 s) ∨ c = crC (zC4 s) (d.files + 1) ∨ c = rnC s (zC4 s) (d.files + 1) ∧ zB1 e.fs (d.files + 1) = some ⟨d.files + 1, zBm b, (zBm b).length⟩
/-- What a Write that is done leaves. -/
structure Done (d : Dk) (s : ByteArray) (b : List UInt8) (e : Dk) : Prop where
  room : e.room = d.room
  up : e.down = false
  kept : e.names = e.kept
  still : e.changes = []
  names : e.names = zC9 (wl s d) s (d.files + 1)
  old : ∀ i F, zB1 d.fs i = some F → zB1 e.fs i = some F
  new : zB1 e.fs (d.files + 1) = some ⟨d.files + 1, zBm b, (zBm b).length⟩
  arm : d.armed = 0 → e.armed = 0
  fs : e.fs = d.fs ++ [(d.files + 1, ⟨d.files + 1, zBm b, (zBm b).length⟩)]
theorem Dk.wrun_succ (f k : Nat) (d : Dk) : Dk.wrun s b (f + 1) k d = if (d.wstep s b k).1 = 0 then Dk.wrun s b f (k + 1) (d.wstep s b k).2 else d.wstep s b k := rfl
theorem zF1 {f k : Nat} {e e1 e2 : Dk} {a : Nat} {p : Prop} [Decidable p] (hst : e.wstep s b k = if p then (110, e1) else (0, e2)) : Dk.wrun s b (f + 1) k e = if p then (110, e1) else Dk.wrun s b f (k + 1) e2 := by
  rw [Dk.wrun_succ, hst]
  by_cases hp : p
  · simp [hp]
  · simp [hp]
theorem UpD.write (h : UpD d) (hv : zC1 s.data.toList = true) (hv2 : zC1 (zC4 s).data.toList = true) (hr : useL d.fs (wl s d) + (b.length + 4) ≤ d.room) :
    ∃ k e, d.write s b = (k, e) ∧ (k = 0 ∧ Done d s b e ∨ k = 110 ∧ e.down = true ∧ d.armed ≠ 0 ∧ Mid d s b e) := by
  have hw : d.write s b = Dk.wrun s b 6 0 (pw d d.names d.changes d.files d.fs d.armed false d.calls) := by
    unfold Dk.write
    rw [if_pos ⟨hv, hv2⟩, ← h.form]
  have hold : ∀ (F : Fl) i G, zB1 d.fs i = some G → zB1 (d.fs ++ [(d.files + 1, F)]) i = some G := fun F i G hG => by rw [zD4 h.key (fun e => h.key (e ▸ zDz hG)), hG]
  have hwc : ∀ x ∈ wc s d, x ∈ d.changes ∨ x = rmC (zC4 s) := fun x hx => by
    unfold wc at hx
    rcases List.mem_append.1 hx with hx | hx
    · exact .inl hx
    · split at hx
      · exact .inr (by simpa using hx)
      · simp at hx
  have m0 : ∀ a dn c, Mid d s b (pw d d.names d.changes d.files d.fs a dn c) := fun a dn c => ⟨fun i F hF => .inl hF, rfl, rfl, fun i F hF => hF, fun c hc => .inl hc⟩
  have m1 : ∀ a dn c, Mid d s b (pw d (wl s d) (wc s d) d.files d.fs a dn c) := fun a dn c => ⟨fun i F hF => .inl hF, rfl, rfl, fun i F hF => hF, fun c hc => (hwc c hc).imp id .inl⟩
  have hlen : ∀ (F : Fl), F.b.length ≤ b.length + 4 → ∀ i G, zB1 (d.fs ++ [(d.files + 1, F)]) i = some G → zB1 d.fs i = some G ∨ G.b.length ≤ b.length + 4 := fun F hF i G hG => by
    by_cases e : i = d.files + 1
    · subst e; rw [zBp h.key] at hG; cases hG; exact .inr hF
    · rw [zD4 h.key e] at hG; exact .inl hG
  have m2 : ∀ F, F.b.length ≤ b.length + 4 → ∀ a dn c, Mid d s b (pw d (wl s d ++ [(zC4 s, d.files + 1)]) (wc s d ++ [crC (zC4 s) (d.files + 1)]) (d.files + 1) (d.fs ++ [(d.files + 1, F)]) a dn c) := fun F hF a dn c => ⟨hlen F hF, rfl, rfl, hold F, fun c hc => by
    rcases List.mem_append.1 hc with hc | hc
    · exact (hwc c hc).imp id .inl
    · simp only [List.mem_cons, List.not_mem_nil, or_false] at hc; exact .inr (.inr (.inl hc))⟩
  have m5 : ∀ a dn c, Mid d s b (pw d (zC9 (wl s d) s (d.files + 1)) (wc s d ++ [crC (zC4 s) (d.files + 1)] ++ [rnC s (zC4 s) (d.files + 1)]) (d.files + 1) (d.fs ++ [(d.files + 1, ⟨d.files + 1, zBm b, (zBm b).length⟩)]) a dn c) := fun a dn c => ⟨hlen _ (by rw [zBs]; exact Nat.le_refl _), rfl, rfl, hold _, fun c hc => by
    rcases List.mem_append.1 hc with hc | hc
    · rcases List.mem_append.1 hc with hc | hc
      · exact (hwc c hc).imp id .inl
      · simp only [List.mem_cons, List.not_mem_nil, or_false] at hc; exact .inr (.inr (.inl hc))
    · simp only [List.mem_cons, List.not_mem_nil, or_false] at hc; exact .inr (.inr (.inr ⟨hc, zBp h.key⟩))⟩
  rw [hw, zF1 (a := 0) h.st0]
  by_cases p0 : (zB1 d.names (zC4 s)).isSome = true ∧ d.armed = 1
  · rw [if_pos p0]; exact ⟨_, _, rfl, .inr ⟨rfl, rfl, by omega, m0 _ _ _⟩⟩
  rw [if_neg p0]
  obtain ⟨a1, h1⟩ : ∃ a1, (if (zB1 d.names (zC4 s)).isSome then d.armed - 1 else d.armed) = a1 := ⟨_, rfl⟩
  obtain ⟨c1, g1⟩ : ∃ c1, (if (zB1 d.names (zC4 s)).isSome then d.calls + 1 else d.calls) = c1 := ⟨_, rfl⟩
  have ha1 : d.armed = 0 → a1 = 0 := fun e => by rw [← h1, e]; split <;> rfl
  rw [h1, g1, zF1 (a := 0) (h.st1 hv2)]
  by_cases p1 : a1 = 1
  · rw [if_pos p1]; exact ⟨_, _, rfl, .inr ⟨rfl, rfl, fun e => by have := ha1 e; omega, m1 _ _ _⟩⟩
  rw [if_neg p1, zF1 (a := 0) (h.st2 hr)]
  by_cases p2 : a1 - 1 = 1
  · rw [if_pos p2]; exact ⟨_, _, rfl, .inr ⟨rfl, rfl, fun e => by have := ha1 e; omega, m2 _ (by simp [zBs]) _ _ _⟩⟩
  rw [if_neg p2, zF1 (a := 0) h.st3]
  by_cases p3 : a1 - 1 - 1 = 1
  · rw [if_pos p3]; exact ⟨_, _, rfl, .inr ⟨rfl, rfl, fun e => by have := ha1 e; omega, m2 _ (by simp [zBs]) _ _ _⟩⟩
  rw [if_neg p3, zF1 (a := 0) (h.st4 hv)]
  by_cases p4 : a1 - 1 - 1 - 1 = 1
  · rw [if_pos p4]; exact ⟨_, _, rfl, .inr ⟨rfl, rfl, fun e => by have := ha1 e; omega, m2 _ (by simp [zBs]) _ _ _⟩⟩
  rw [if_neg p4, zF1 (a := 0) pw_st5]
  by_cases p5 : a1 - 1 - 1 - 1 - 1 = 1
  · rw [if_pos p5]; exact ⟨_, _, rfl, .inr ⟨rfl, rfl, fun e => by have := ha1 e; omega, m5 _ _ _⟩⟩
  rw [if_neg p5]
  exact ⟨_, _, rfl, .inl ⟨rfl, rfl, rfl, rfl, rfl, rfl, hold _, zBp h.key, fun e => by have := ha1 e; show a1 - 1 - 1 - 1 - 1 - 1 = 0; omega, rfl⟩⟩
end Go.Proofs.YtdkgdjnbpjjfmaaGreatDoor
namespace Go.Proofs.YtdkgdjnbpjjfmaaGreatDoor
set_option linter.all false
open Go.RowKit
variable {d e : Dk} {s : ByteArray} {b : List UInt8}

theorem Fl.crashed_whole {F : Fl} (h : F.syn = F.b.length) (picks : List Int) (k : Nat) : F.crashed picks k = F := by
  obtain ⟨i, b, q⟩ := F
  simp only at h
  subst h
  have h0 : pickN picks (k + 1) 0 = 0 := by have := pickN_le picks (k + 1) 0; omega
  simp [Fl.crashed, h0]
theorem zCg {picks : List Int} {i : Nat} {F : Fl} (hF : F.syn = F.b.length) : ∀ (l : List Nat) (k : Nat) (fs : List (Nat × Fl)), zB1 fs i = some F → zB1 (zDg picks k l fs) i = some F
  | [], _, _, h => h
  | j :: l, k, fs, h => by
    refine zCg hF l (k + 1) _ ?_
    cases hj : zB1 fs j with
    | none => exact h
    | some G =>
      by_cases e : i = j
      · subst e
        rw [h] at hj
        cases hj
        simp only [zB8, Fl.crashed_whole hF]
      · rw [← h]; exact zB0 _ _ e
theorem aget_adel {κ α : Type} [DecidableEq κ] {l : List (κ × α)} {k j : κ} (h : j ≠ k) : zB1 (zDq l k) j = zB1 l j := zCa l h
/-- What is under two names may have changed, no other. -/
structure Near (l0 : List (ByteArray × Nat)) (s t : ByteArray) (S : Prop) (j : Nat) (l : List (ByteArray × Nat)) : Prop where
  nd : (zAg l).Nodup
  other : ∀ n, n ≠ s → n ≠ t → zB1 l n = zB1 l0 n
  at_s : zB1 l s = zB1 l0 s ∨ zB1 l s = some j ∧ S
theorem Near.app {l0 l : List (ByteArray × Nat)} {t : ByteArray} {S : Prop} {j : Nat} {c : Chg} (h : Near l0 s t S j l) (hst : t ≠ s) (ht : t ≠ ByteArray.empty) (hc : c = rmC t ∨ c = crC t j ∨ c = rnC s t j ∧ S) : Near l0 s t S j (c.app l) := by
  rcases hc with rfl | rfl | ⟨rfl, hS⟩
  · refine ⟨Chg.app_nodup h.nd, fun n h1 h2 => ?_, ?_⟩
    · simp only [Chg.app, if_neg ht]; rw [aget_adel h2]; exact h.other n h1 h2
    · simp only [Chg.app, if_neg ht]; rw [aget_adel (Ne.symm hst)]; exact h.at_s
  · refine ⟨Chg.app_nodup h.nd, fun n h1 h2 => ?_, ?_⟩
    · simp only [Chg.app, if_true]; rw [zB0 _ _ h2]; exact h.other n h1 h2
    · simp only [Chg.app, if_true]; rw [zB0 _ _ (Ne.symm hst)]; exact h.at_s
  · refine ⟨Chg.app_nodup h.nd, fun n h1 h2 => ?_, .inr ⟨?_, hS⟩⟩
    · simp only [Chg.app, if_neg ht]; rw [zB0 _ _ h1, aget_adel h2]; exact h.other n h1 h2
    · simp only [Chg.app]; exact zB8 _ _ _
theorem Near.all {l0 : List (ByteArray × Nat)} {t : ByteArray} {S : Prop} {j : Nat} (hst : t ≠ s) (ht : t ≠ ByteArray.empty) : ∀ {cs : List Chg} {l : List (ByteArray × Nat)}, Near l0 s t S j l → (∀ c ∈ cs, c = rmC t ∨ c = crC t j ∨ c = rnC s t j ∧ S) → Near l0 s t S j (zCh l cs)
  | [], _, h, _ => h
  | c :: cs, l, h, hc => show Near l0 s t S j (zCh (c.app l) cs) from Near.all (cs := cs) (l := c.app l) hst ht (h.app hst ht (hc c (List.mem_cons_self ..))) fun c' h' => hc c' (List.mem_cons_of_mem _ h')

/-- Under a name stands, whole and synced, v; or there is none. -/
def Under (d : Dk) (n : ByteArray) : Option (List UInt8) → Prop
  | none => zB1 d.names n = none
  | some v => ∃ i q, zB1 d.names n = some i ∧ zB1 d.fs i = some ⟨q, zBm v, (zBm v).length⟩
def zDt (f : ByteArray → Option (List UInt8)) (s : ByteArray) (v : List UInt8) : ByteArray → Option (List UInt8) := fun n => if n = s then some v else f n
/-- The disk keeps f under the names N. -/
structure PtI (N : List ByteArray) (B : Nat) (f : ByteArray → Option (List UInt8)) (d : Dk) : Prop where
  calm : Calm d
  under : ∀ n ∈ N, Under d n (f n)
  keys : ∀ n ∈ zAg d.names, n ∈ N ∨ n ∈ N.map zC4
  len : ∀ i F, zB1 d.fs i = some F → F.b.length ≤ B
theorem useL_le {fs : List (Nat × Fl)} {B : Nat} (h : ∀ i F, zB1 fs i = some F → F.b.length ≤ B) : ∀ l : List (ByteArray × Nat), useL fs l ≤ l.length * B
  | [] => by simp [useL]
  | x :: l => by
    have ih := useL_le h l
    have h1 : ((zB1 fs x.2).map (·.b.length)).getD 0 ≤ B := by
      cases hx : zB1 fs x.2 with
      | none => exact Nat.zero_le _
      | some F => exact h _ F hx
    simp only [useL, List.map_cons, List.sum_cons, List.length_cons, Nat.succ_mul] at ih ⊢
    omega
theorem PtI.names_le {N : List ByteArray} {B : Nat} {f : ByteArray → Option (List UInt8)} (h : PtI N B f d) : d.names.length ≤ 2 * N.length := by
  have h1 : (zAg d.names).length ≤ (N ++ N.map zC4).length := h.calm.ok.nnd.length_le_of_subset fun n hn => List.mem_append.2 (h.keys n hn)
  simp [zAg] at h1
  omega
theorem PtI.room {N : List ByteArray} {B : Nat} {f : ByteArray → Option (List UInt8)} (h : PtI N B f d) (s : ByteArray) : useL d.fs (wl s d) ≤ 2 * N.length * B := by
  have h1 := useL_le h.len (wl s d)
  have h2 : (wl s d).length ≤ 2 * N.length := Nat.le_trans (adel_len _ _) h.names_le
  exact Nat.le_trans h1 (Nat.mul_le_mul_right _ h2)
theorem Done.pt {N : List ByteArray} {B : Nat} {f : ByteArray → Option (List UInt8)} (h : PtI N B f d) (hs : s ∈ N) (hN : ∀ n ∈ N, zC4 s ≠ n) (hb : b.length + 4 ≤ B) (he : e.ok) (m : Done d s b e) : PtI N B (zDt f s b) e := by
  have hag : ∀ n, n ≠ s → n ≠ zC4 s → zB1 e.names n = zB1 d.names n := fun n h1 h2 => by rw [m.names, zB0 _ _ h1, wl, aget_adel h2]
  refine ⟨⟨⟨he, m.up⟩, m.kept, m.still⟩, fun n hn => ?_, fun n hn => ?_, fun i F hF => ?_⟩
  · unfold zDt
    by_cases e1 : n = s
    · subst e1
      rw [if_pos rfl]
      exact ⟨_, _, by rw [m.names, zB8], m.new⟩
    · rw [if_neg e1]
      have h1 := h.under n hn
      have h2 := hag n e1 (Ne.symm (hN n hn))
      cases hf : f n with
      | none => rw [hf] at h1; exact h2.trans h1
      | some v => rw [hf] at h1; obtain ⟨i, q, k1, k2⟩ := h1; exact ⟨i, q, h2.trans k1, m.old i _ k2⟩
  · by_cases e1 : n = s
    · subst e1; exact .inl hs
    · by_cases e2 : n = zC4 s
      · subst e2; exact .inr (List.mem_map_of_mem hs)
      · refine h.keys n ?_
        obtain ⟨v, hv⟩ := zDf hn
        rw [hag n e1 e2] at hv
        exact zDz hv
  · rw [m.fs] at hF
    by_cases e1 : i = d.files + 1
    · subst e1; rw [zBp h.calm.key] at hF; cases hF; show (zBm b).length ≤ B; rw [zBs]; exact hb
    · rw [zD4 h.calm.key e1] at hF; exact h.len i F hF
theorem Mid.pt {N : List ByteArray} {B : Nat} {f : ByteArray → Option (List UInt8)} (h : PtI N B f d) (hs : s ∈ N) (hN : ∀ n ∈ N, zC4 s ≠ n) (hb : b.length + 4 ≤ B) (he : e.ok) (m : Mid d s b e) (picks : List Int) : PtI N B f (e.crash picks) ∨ PtI N B (zDt f s b) (e.crash picks) := by
  have hn0 : Near d.names s (zC4 s) (zB1 e.fs (d.files + 1) = some ⟨d.files + 1, zBm b, (zBm b).length⟩) (d.files + 1) e.kept := by
    rw [m.kept, ← h.calm.kept]; exact ⟨h.calm.ok.nnd, fun n _ _ => rfl, .inl rfl⟩
  have hn := hn0.all (newN_ne s) (newN_some s) (cs := e.changes.take (pickN picks 0 e.changes.length)) fun c hc => (m.chs c (List.mem_of_mem_take hc)).resolve_left (fun h1 => by rw [h.calm.still] at h1; simp at h1)
  have hok := he.crash picks
  have hcalm : Calm (e.crash picks) := ⟨⟨hok, rfl⟩, rfl, rfl⟩
  have hkeys : ∀ n ∈ zAg (e.crash picks).names, n ∈ N ∨ n ∈ N.map zC4 := fun n hk => by
    by_cases e1 : n = s
    · subst e1; exact .inl hs
    · by_cases e2 : n = zC4 s
      · subst e2; exact .inr (List.mem_map_of_mem hs)
      · refine h.keys n ?_
        obtain ⟨v, hv⟩ := zDf hk
        have hv : zB1 (zCh e.kept (e.changes.take (pickN picks 0 e.changes.length))) n = some v := hv
        rw [hn.other n e1 e2] at hv
        exact zDz hv
  have hlen : ∀ i F, zB1 (e.crash picks).fs i = some F → F.b.length ≤ B := fun i F hF => by
    have := zDy (P := fun i f => f.syn ≤ f.b.length ∧ f.b.length ≤ B) (fun i f picks k hf => by
      have h1 := Fl.crashed_fine hf.1 picks k
      exact ⟨h1.2.1, Nat.le_trans h1.2.2 hf.2⟩) (picks := picks) (keptIds e.fs (zCh e.kept (e.changes.take (pickN picks 0 e.changes.length)))) 0 e.fs (fun i f hf => ⟨(he.fid i f hf).2.1, by
        rcases m.len i f hf with h1 | h1
        · exact h.len i f h1
        · omega⟩) i F hF
    exact this.2
  have hold : ∀ n ∈ N, n ≠ s → Under (e.crash picks) n (f n) := fun n hnN hne => by
    have h1 := h.under n hnN
    have h2 : zB1 (e.crash picks).names n = zB1 d.names n := hn.other n hne (Ne.symm (hN n hnN))
    cases hf : f n with
    | none => rw [hf] at h1; exact h2.trans h1
    | some v => rw [hf] at h1; obtain ⟨i, q, k1, k2⟩ := h1; exact ⟨i, q, h2.trans k1, zCg rfl _ _ _ (m.old i _ k2)⟩
  rcases hn.at_s with h1 | ⟨h1, h2⟩
  · refine .inl ⟨hcalm, fun n hnN => ?_, hkeys, hlen⟩
    by_cases e1 : n = s
    · subst e1
      have h3 := h.under n hnN
      have h1 : zB1 (e.crash picks).names n = zB1 d.names n := h1
      cases hf : f n with
      | none => rw [hf] at h3; exact h1.trans h3
      | some v => rw [hf] at h3; obtain ⟨i, q, k1, k2⟩ := h3; exact ⟨i, q, h1.trans k1, zCg rfl _ _ _ (m.old i _ k2)⟩
    · exact hold n hnN e1
  · refine .inr ⟨hcalm, fun n hnN => ?_, hkeys, hlen⟩
    unfold zDt
    by_cases e1 : n = s
    · subst e1; rw [if_pos rfl]; exact ⟨_, _, h1, zCg rfl _ _ _ h2⟩
    · rw [if_neg e1]; exact hold n hnN e1
theorem PtI.crash {N : List ByteArray} {B : Nat} {f : ByteArray → Option (List UInt8)} (h : PtI N B f d) (picks : List Int) : PtI N B f (d.crash picks) := by
  have hnm : (d.crash picks).names = d.names := by
    show zCh d.kept (d.changes.take _) = d.names
    rw [h.calm.still, List.take_nil, h.calm.kept]
    rfl
  refine ⟨⟨⟨h.calm.ok.crash picks, rfl⟩, rfl, rfl⟩, fun n hn => ?_, fun n hn => h.keys n (hnm ▸ hn), fun i F hF => ?_⟩
  · have h1 := h.under n hn
    cases hf : f n with
    | none => rw [hf] at h1; show zB1 _ n = none; rw [hnm]; exact h1
    | some v => rw [hf] at h1; obtain ⟨i, q, k1, k2⟩ := h1; exact ⟨i, q, by rw [hnm]; exact k1, zCg rfl _ _ _ k2⟩
  · have := zDy (P := fun i f => f.syn ≤ f.b.length ∧ f.b.length ≤ B) (fun i f picks k hf => by
      have h1 := Fl.crashed_fine hf.1 picks k
      exact ⟨h1.2.1, Nat.le_trans h1.2.2 hf.2⟩) (picks := picks) (keptIds d.fs (zCh d.kept (d.changes.take (pickN picks 0 d.changes.length)))) 0 d.fs (fun i f hf => ⟨(h.calm.ok.fid i f hf).2.1, h.len i f hf⟩) i F hF
    exact this.2
theorem PtI.arm {N : List ByteArray} {B : Nat} {f : ByteArray → Option (List UInt8)} (h : PtI N B f d) {n : Nat} (hok : ({ d with armed := n } : Dk).ok) : PtI N B f { d with armed := n } :=
  ⟨⟨⟨hok, h.calm.up⟩, h.calm.kept, h.calm.still⟩, fun m hm => by have := h.under m hm; cases hf : f m <;> (rw [hf] at this; exact this), h.keys, h.len⟩
/-- A Write, whatever the power does. -/
theorem PtI.write {N : List ByteArray} {B : Nat} {f : ByteArray → Option (List UInt8)} (h : PtI N B f d) (hs : s ∈ N) (hN : ∀ n ∈ N, zC4 s ≠ n) (hv : zC1 s.data.toList = true) (hv2 : zC1 (zC4 s).data.toList = true) (hb : b.length + 4 ≤ B) (hr : 2 * N.length * B + B ≤ d.room) :
    ∃ k e, d.write s b = (k, e) ∧ e.room = d.room ∧ (k = 0 ∧ e.down = false ∧ (d.armed = 0 → e.armed = 0) ∧ (e.ok → PtI N B (zDt f s b) e) ∨ k = 110 ∧ e.down = true ∧ d.armed ≠ 0 ∧ (e.ok → ∀ picks, PtI N B f (e.crash picks) ∨ PtI N B (zDt f s b) (e.crash picks))) := by
  have h1 := h.room s
  obtain ⟨k, e, hk, hd⟩ := h.calm.write (b := b) hv hv2 (by omega)
  rcases hd with ⟨h1, m⟩ | ⟨h1, h2, h3, m⟩
  · exact ⟨k, e, hk, m.room, .inl ⟨h1, m.up, m.arm, fun he => m.pt h hs hN hb he⟩⟩
  · exact ⟨k, e, hk, m.room, .inr ⟨h1, h2, h3, fun he picks => m.pt h hs hN hb he picks⟩⟩
def readO : Option (List UInt8) → Nat × List UInt8
  | none => (107, [])
  | some v => (0, v)
theorem Under.read {n : ByteArray} {o : Option (List UInt8)} (h : Under d n o) (hu : d.down = false) : d.pread n = readO o := by
  cases o with
  | none =>
    have h1 : zB1 d.names n = none := h
    simp [Dk.pread, Dk.lenR, Dk.file, hu, h1, readO]
  | some v =>
    obtain ⟨i, q, k1, k2⟩ := h
    have hl : d.lenR n = (0, (zBm v).length) := by simp [Dk.lenR, Dk.file, hu, k1, Dk.fl, k2]
    have hr : d.readR n 0 ((zBm v).length : Int) = (0, zBm v) := (Dk.readR_at (o := 0) (m := (zBm v).length) hu k1 k2 (by show 0 + (zBm v).length ≤ (zBm v).length; omega)).trans (by simp)
    simp only [Dk.pread, hl, hr, open_seal, readO]
    simp
theorem PtI.read {N : List ByteArray} {B : Nat} {f : ByteArray → Option (List UInt8)} (h : PtI N B f d) {n : ByteArray} (hn : n ∈ N) : d.pread n = readO (f n) := (h.under n hn).read h.calm.up
theorem Dk.wrun_calls (s : ByteArray) (b : List UInt8) : ∀ (f k : Nat) (d : Dk), (Dk.wrun s b f k d).2.calls ≤ d.calls + f
  | 0, _, _ => Nat.le_refl _
  | f + 1, k, d => by
    have h1 := d.wstep_calls s b k
    have h2 := Dk.wrun_calls s b f (k + 1) (d.wstep s b k).2
    rw [Dk.wrun_succ]
    split
    · omega
    · omega
theorem Dk.write_calls {k : Nat} (h : d.write s b = (k, e)) : e.calls ≤ d.calls + 6 := by
  unfold Dk.write at h
  split at h
  · have := Dk.wrun_calls s b 6 0 d; rw [h] at this; exact this
  · cases h; omega
theorem PtI.start {N : List ByteArray} {B r : Nat} (hr : r ≤ 4194304) : PtI N B (fun _ => none) (Dk.empty r) :=
  ⟨⟨⟨Dk.empty_ok hr, rfl⟩, rfl, rfl⟩, fun n _ => rfl, fun n hn => by simp [Dk.empty, zAg] at hn, fun i F hF => by cases hF⟩
end Go.Proofs.YtdkgdjnbpjjfmaaGreatDoor
namespace Go.Proofs.YtdkgdjnbpjjfmaaGreatDoor
set_option linter.all false
open Go.RowKit
variable {d e : Dk} {s n : ByteArray} {b v x : List UInt8} {N : List ByteArray} {B : Nat} {f : ByteArray → Option (List UInt8)}

/-- Under a name stands, synced, v; or there is none. -/
def Raw (d : Dk) (n : ByteArray) : Option (List UInt8) → Prop
  | none => zB1 d.names n = none
  | some v => ∃ i q, zB1 d.names n = some i ∧ zB1 d.fs i = some ⟨q, v, v.length⟩
/-- The names are kept, and what stands under them. -/
structure RawS (N : List ByteArray) (B : Nat) (f : ByteArray → Option (List UInt8)) (d : Dk) : Prop where
  kept : d.names = d.kept
  still : d.changes = []
  under : ∀ n ∈ N, Raw d n (f n)
  apart : ∀ n ∈ N, ∀ m ∈ N, ∀ i, zB1 d.names n = some i → zB1 d.names m = some i → n = m
  keys : ∀ n ∈ zAg d.names, n ∈ N ∨ n ∈ N.map zC4
  len : ∀ i F, zB1 d.fs i = some F → F.b.length ≤ B
structure RawI (N : List ByteArray) (B : Nat) (f : ByteArray → Option (List UInt8)) (d : Dk) : Prop where
  ok : d.ok
  up : d.down = false
  st : RawS N B f d
theorem Raw.same {o : Option (List UInt8)} (h : Raw d n o) (h1 : zB1 e.names n = zB1 d.names n) (h2 : ∀ i F, zB1 d.names n = some i → zB1 d.fs i = some F → F.syn = F.b.length → zB1 e.fs i = some F) : Raw e n o := by
  cases o with
  | none => exact h1.trans h
  | some v => obtain ⟨i, q, k1, k2⟩ := h; exact ⟨i, q, h1.trans k1, h2 i _ k1 k2 rfl⟩
theorem RawS.same (h : RawS N B f d) (h1 : e.names = d.names) (h2 : e.kept = d.kept) (h3 : e.changes = d.changes) (h4 : e.fs = d.fs) : RawS N B f e :=
  ⟨by rw [h1, h2]; exact h.kept, by rw [h3]; exact h.still, fun n hn => (h.under n hn).same (by rw [h1]) fun i F _ hF _ => by rw [h4]; exact hF, by rw [h1]; exact h.apart, by rw [h1]; exact h.keys, by rw [h4]; exact h.len⟩
theorem RawS.crash_names (h : RawS N B f d) (picks : List Int) : (d.crash picks).names = d.names := by
  show zCh d.kept (d.changes.take _) = d.names
  rw [h.still, List.take_nil, h.kept]
  rfl
theorem crash_len (ho : d.ok) (h : ∀ i F, zB1 d.fs i = some F → F.b.length ≤ B) (picks : List Int) : ∀ i F, zB1 (d.crash picks).fs i = some F → F.b.length ≤ B := fun i F hF => by
  have := zDy (P := fun i f => f.syn ≤ f.b.length ∧ f.b.length ≤ B) (fun i f picks k hf => by
      have h1 := Fl.crashed_fine hf.1 picks k
      exact ⟨h1.2.1, Nat.le_trans h1.2.2 hf.2⟩) (picks := picks) (keptIds d.fs (zCh d.kept (d.changes.take (pickN picks 0 d.changes.length)))) 0 d.fs (fun i f hf => ⟨(ho.fid i f hf).2.1, h i f hf⟩) i F hF
  exact this.2
theorem RawS.crash (h : RawS N B f d) (ho : d.ok) (picks : List Int) : RawI N B f (d.crash picks) := by
  have hnm := h.crash_names picks
  exact ⟨ho.crash picks, rfl, rfl, rfl, fun n hn => (h.under n hn).same (by rw [hnm]) fun i F _ hF hw => zCg hw _ _ _ hF, by rw [hnm]; exact h.apart, by rw [hnm]; exact h.keys, crash_len ho h.len picks⟩
/-- Of what was not synced some bytes come back. -/
theorem RawS.part (h : RawS N B f d) (hs : s ∈ N) {i q : Nat} (hi : zB1 d.names s = some i) (ho : e.ok) (h1 : e.names = d.names) (h2 : e.kept = d.kept) (h3 : e.changes = d.changes) (h4 : ∀ j, j ≠ i → zB1 e.fs j = zB1 d.fs j) (hF : zB1 e.fs i = some ⟨q, v ++ x, v.length⟩) (hB : v.length + x.length ≤ B) (picks : List Int) : ∃ j, RawI N B (zDt f s (v ++ x.take j)) (e.crash picks) := by
  have hnm : (e.crash picks).names = d.names := by
    show zCh e.kept (e.changes.take _) = d.names
    rw [h3, h.still, List.take_nil, h2, h.kept]
    rfl
  have hnd : (keptIds e.fs (zCh e.kept (e.changes.take (pickN picks 0 e.changes.length)))).Nodup := (ho.keys_rise.filter _).imp fun h => Nat.ne_of_lt h
  have hin : i ∈ keptIds e.fs (zCh e.kept (e.changes.take (pickN picks 0 e.changes.length))) := keptIds_mem.2 ⟨zDz hF, by
    show i ∈ (e.crash picks).names.map (·.2)
    rw [hnm]
    exact List.mem_map.2 ⟨_, zDd hi, rfl⟩⟩
  obtain ⟨k, hk⟩ := List.mem_iff_getElem?.1 hin
  have hat : zB1 (e.crash picks).fs i = some ((⟨q, v ++ x, v.length⟩ : Fl).crashed picks (0 + k)) := crashFs_at _ 0 _ hnd hk hF
  obtain ⟨j, hj⟩ : ∃ j, pickN picks (0 + k + 1) ((v ++ x).length - v.length) = j := ⟨_, rfl⟩
  have ht : (v ++ x).take (v.length + j) = v ++ x.take j := by rw [List.take_append, List.take_of_length_le (by omega)]; simp
  have hat : zB1 (e.crash picks).fs i = some ⟨q, v ++ x.take j, (v ++ x.take j).length⟩ := by rw [hat]; simp only [Fl.crashed, hj, ht]
  refine ⟨j, ho.crash picks, rfl, rfl, rfl, fun n hn => ?_, by rw [hnm]; exact h.apart, by rw [hnm]; exact h.keys, crash_len ho (fun a F hF' => ?_) picks⟩
  · unfold zDt
    by_cases e1 : n = s
    · subst e1; rw [if_pos rfl]; exact ⟨i, q, by rw [hnm]; exact hi, hat⟩
    · rw [if_neg e1]
      refine (h.under n hn).same (by rw [hnm]) fun a F ha hF' hw => zCg hw _ _ _ ?_
      rw [h4 a fun ea => e1 (h.apart n hn s hs a ha (ea ▸ hi))]; exact hF'
  · by_cases ea : a = i
    · subst ea; rw [hF] at hF'; cases hF'; simpa using hB
    · rw [h4 a ea] at hF'; exact h.len a F hF'
theorem RawI.names_le (h : RawI N B f d) : d.names.length ≤ 2 * N.length := by
  have h1 : (zAg d.names).length ≤ (N ++ N.map zC4).length := h.ok.nnd.length_le_of_subset fun n hn => List.mem_append.2 (h.st.keys n hn)
  simp [zAg] at h1
  omega
theorem RawI.used (h : RawI N B f d) : d.used ≤ 2 * N.length * B := by
  have h1 : useL d.fs d.names ≤ d.names.length * B := useL_le h.st.len d.names
  exact Nat.le_trans h1 (Nat.mul_le_mul_right _ h.names_le)
theorem RawI.calm (h : RawI N B f d) : Calm d := ⟨⟨h.ok, h.up⟩, h.st.kept, h.st.still⟩
theorem RawI.roomW (h : RawI N B f d) (s : ByteArray) : useL d.fs (wl s d) ≤ 2 * N.length * B := by
  have h1 := useL_le h.st.len (wl s d)
  have h2 : (wl s d).length ≤ 2 * N.length := Nat.le_trans (adel_len _ _) h.names_le
  exact Nat.le_trans h1 (Nat.mul_le_mul_right _ h2)
theorem RawI.old_id (h : RawI N B f d) {i : Nat} (hi : zB1 d.names n = some i) : i ≠ d.files + 1 := fun e => h.ok.fresh (e ▸ h.ok.named hi)
theorem Done.raw (h : RawI N B f d) (hs : s ∈ N) (hN : ∀ n ∈ N, zC4 s ≠ n) (hb : b.length + 4 ≤ B) (he : e.ok) (m : Done d s b e) : RawI N B (zDt f s (zBm b)) e := by
  have hag : ∀ n, n ≠ s → n ≠ zC4 s → zB1 e.names n = zB1 d.names n := fun n h1 h2 => by rw [m.names, zB0 _ _ h1, wl, aget_adel h2]
  have has : zB1 e.names s = some (d.files + 1) := by rw [m.names, zB8]
  refine ⟨he, m.up, m.kept, m.still, fun n hn => ?_, fun n hn n' hn' i h1 h2 => ?_, fun n hn => ?_, fun i F hF => ?_⟩
  · unfold zDt
    by_cases e1 : n = s
    · subst e1; rw [if_pos rfl]; exact ⟨_, _, has, m.new⟩
    · rw [if_neg e1]; exact (h.st.under n hn).same (hag n e1 (Ne.symm (hN n hn))) fun i F _ hF _ => m.old i F hF
  · by_cases e1 : n = s
    · by_cases e2 : n' = s
      · rw [e1, e2]
      · rw [e1, has] at h1
        rw [hag n' e2 (Ne.symm (hN n' hn'))] at h2
        cases h1
        exact absurd rfl (h.old_id h2)
    · by_cases e2 : n' = s
      · rw [e2, has] at h2
        rw [hag n e1 (Ne.symm (hN n hn))] at h1
        cases h2
        exact absurd rfl (h.old_id h1)
      · rw [hag n e1 (Ne.symm (hN n hn))] at h1
        rw [hag n' e2 (Ne.symm (hN n' hn'))] at h2
        exact h.st.apart n hn n' hn' i h1 h2
  · by_cases e1 : n = s
    · subst e1; exact .inl hs
    · by_cases e2 : n = zC4 s
      · subst e2; exact .inr (List.mem_map_of_mem hs)
      · refine h.st.keys n ?_
        obtain ⟨v, hv⟩ := zDf hn
        rw [hag n e1 e2] at hv
        exact zDz hv
  · rw [m.fs] at hF
    by_cases e1 : i = d.files + 1
    · subst e1; rw [zBp h.ok.fresh] at hF; cases hF; show (zBm b).length ≤ B; rw [zBs]; exact hb
    · rw [zD4 h.ok.fresh e1] at hF; exact h.st.len i F hF
theorem Mid.raw (h : RawI N B f d) (hs : s ∈ N) (hN : ∀ n ∈ N, zC4 s ≠ n) (hb : b.length + 4 ≤ B) (he : e.ok) (m : Mid d s b e) (picks : List Int) : RawI N B f (e.crash picks) ∨ RawI N B (zDt f s (zBm b)) (e.crash picks) := by
  have hn0 : Near d.names s (zC4 s) (zB1 e.fs (d.files + 1) = some ⟨d.files + 1, zBm b, (zBm b).length⟩) (d.files + 1) e.kept := by
    rw [m.kept, ← h.st.kept]; exact ⟨h.ok.nnd, fun n _ _ => rfl, .inl rfl⟩
  have hn := hn0.all (newN_ne s) (newN_some s) (cs := e.changes.take (pickN picks 0 e.changes.length)) fun c hc => (m.chs c (List.mem_of_mem_take hc)).resolve_left (fun h1 => by rw [h.st.still] at h1; simp at h1)
  have hkeys : ∀ n ∈ zAg (e.crash picks).names, n ∈ N ∨ n ∈ N.map zC4 := fun n hk => by
    by_cases e1 : n = s
    · subst e1; exact .inl hs
    · by_cases e2 : n = zC4 s
      · subst e2; exact .inr (List.mem_map_of_mem hs)
      · refine h.st.keys n ?_
        obtain ⟨v, hv⟩ := zDf hk
        have hv : zB1 (zCh e.kept (e.changes.take (pickN picks 0 e.changes.length))) n = some v := hv
        rw [hn.other n e1 e2] at hv
        exact zDz hv
  have hlen := crash_len he (B := B) (fun i F hF => by
    rcases m.len i F hF with h1 | h1
    · exact h.st.len i F h1
    · omega) picks
  have hoth : ∀ n ∈ N, n ≠ s → zB1 (e.crash picks).names n = zB1 d.names n := fun n hnN hne => hn.other n hne (Ne.symm (hN n hnN))
  have hold : ∀ n ∈ N, zB1 (e.crash picks).names n = zB1 d.names n → Raw (e.crash picks) n (f n) := fun n hnN h2 => (h.st.under n hnN).same h2 fun i F _ hF hw => zCg hw _ _ _ (m.old i F hF)
  rcases hn.at_s with h1 | ⟨h1, h2⟩
  · have hall : ∀ n ∈ N, zB1 (e.crash picks).names n = zB1 d.names n := fun n hnN => by
      by_cases e1 : n = s
      · subst e1; exact h1
      · exact hoth n hnN e1
    exact .inl ⟨he.crash picks, rfl, rfl, rfl, fun n hnN => hold n hnN (hall n hnN), fun n hnN n' hn' i g1 g2 => h.st.apart n hnN n' hn' i (hall n hnN ▸ g1) (hall n' hn' ▸ g2), hkeys, hlen⟩
  · have has : zB1 (e.crash picks).names s = some (d.files + 1) := h1
    refine .inr ⟨he.crash picks, rfl, rfl, rfl, fun n hnN => ?_, fun n hnN n' hn' i g1 g2 => ?_, hkeys, hlen⟩
    · unfold zDt
      by_cases e1 : n = s
      · subst e1; rw [if_pos rfl]; exact ⟨_, _, has, zCg rfl _ _ _ h2⟩
      · rw [if_neg e1]; exact hold n hnN (hoth n hnN e1)
    · by_cases e1 : n = s
      · by_cases e2 : n' = s
        · rw [e1, e2]
        · rw [e1, has] at g1
          rw [hoth n' hn' e2] at g2
          cases g1
          exact absurd rfl (h.old_id g2)
      · by_cases e2 : n' = s
        · rw [e2, has] at g2
          rw [hoth n hnN e1] at g1
          cases g2
          exact absurd rfl (h.old_id g1)
        · rw [hoth n hnN e1] at g1
          rw [hoth n' hn' e2] at g2
          exact h.st.apart n hnN n' hn' i g1 g2
/-- A Write, whatever the power does. -/
theorem RawI.write (h : RawI N B f d) (hs : s ∈ N) (hN : ∀ n ∈ N, zC4 s ≠ n) (hv : zC1 s.data.toList = true) (hv2 : zC1 (zC4 s).data.toList = true) (hb : b.length + 4 ≤ B) (hr : 2 * N.length * B + B ≤ d.room) :
    ∃ k e, d.write s b = (k, e) ∧ e.room = d.room ∧ e.calls ≤ d.calls + 6 ∧ (k = 0 ∧ e.down = false ∧ (d.armed = 0 → e.armed = 0) ∧ (e.ok → RawI N B (zDt f s (zBm b)) e) ∨ k = 110 ∧ e.down = true ∧ d.armed ≠ 0 ∧ (e.ok → ∀ picks, RawI N B f (e.crash picks) ∨ RawI N B (zDt f s (zBm b)) (e.crash picks))) := by
  have h1 := h.roomW s
  obtain ⟨k, e, hk, hd⟩ := UpD.write ⟨h.ok, h.up⟩ (b := b) hv hv2 (by omega)
  rcases hd with ⟨h1, m⟩ | ⟨h1, h2, h3, m⟩
  · exact ⟨k, e, hk, m.room, Dk.write_calls hk, .inl ⟨h1, m.up, m.arm, fun he => m.raw h hs hN hb he⟩⟩
  · exact ⟨k, e, hk, m.room, Dk.write_calls hk, .inr ⟨h1, h2, h3, fun he picks => m.raw h hs hN hb he picks⟩⟩
theorem Dk.find_arm {i : Nat} (hu : d.down = false) (hn : zB1 d.names n = some i) : d.find n = if d.armed = 1 then (110, none, { d with armed := 0, down := true }) else (0, some i, { d with armed := d.armed - 1 }) := by
  obtain ⟨room, names, kept, changes, files, a, down, calls, fs⟩ := d
  simp only at hu hn
  subst hu
  by_cases h0 : a = 0
  · subst h0; simp [Dk.find, Dk.begin, Dk.file, hn]
  · by_cases h1 : a = 1
    · subst h1; simp [Dk.find, Dk.begin]
    · simp [Dk.find, Dk.begin, Dk.file, hn, h0, h1]
theorem RawS.set (h : RawS N B f d) (hs : s ∈ N) {i q : Nat} (hi : zB1 d.names s = some i) (h1 : e.names = d.names) (h2 : e.kept = d.kept) (h3 : e.changes = d.changes) (h4 : ∀ j, j ≠ i → zB1 e.fs j = zB1 d.fs j) (hF : zB1 e.fs i = some ⟨q, v, v.length⟩) (hB : v.length ≤ B) : RawS N B (zDt f s v) e := by
  refine ⟨by rw [h1, h2]; exact h.kept, by rw [h3]; exact h.still, fun n hn => ?_, by rw [h1]; exact h.apart, by rw [h1]; exact h.keys, fun a F hF' => ?_⟩
  · unfold zDt
    by_cases e1 : n = s
    · subst e1; rw [if_pos rfl]; exact ⟨i, q, by rw [h1]; exact hi, hF⟩
    · rw [if_neg e1]
      exact (h.under n hn).same (by rw [h1]) fun a F ha hF' hw => by rw [h4 a fun ea => e1 (h.apart n hn s hs a ha (ea ▸ hi))]; exact hF'
  · by_cases ea : a = i
    · subst ea; rw [hF] at hF'; cases hF'; exact hB
    · rw [h4 a ea] at hF'; exact h.len a F hF'
/-- Bytes laid behind, and synced; whatever the power does. -/
theorem RawI.grow (h : RawI N B f d) (hs : s ∈ N) (hf : f s = some v) (hb : v.length + x.length ≤ B) (hr : 2 * N.length * B + B ≤ d.room) :
    ∃ k e, d.append s x = (k, e) ∧ e.room = d.room ∧ e.calls ≤ d.calls + 1 ∧ (k = 110 ∧ e.down = true ∧ d.armed ≠ 0 ∧ (e.ok → ∀ picks, RawI N B f (e.crash picks)) ∨
      k = 0 ∧ e.down = false ∧ ∃ k2 e2, e.sync s = (k2, e2) ∧ e2.room = d.room ∧ e2.calls ≤ d.calls + 2 ∧ (k2 = 0 ∧ e2.down = false ∧ (d.armed = 0 → e2.armed = 0) ∧ (e2.ok → RawI N B (zDt f s (v ++ x)) e2) ∨ k2 = 110 ∧ e2.down = true ∧ d.armed ≠ 0 ∧ (e2.ok → ∀ picks, ∃ j, RawI N B (zDt f s (v ++ x.take j)) (e2.crash picks)))) := by
  have hu := h.st.under s hs
  rw [hf] at hu
  obtain ⟨i, q, hi, hF⟩ := hu
  have hus := h.used
  have hap : d.append s x = if d.armed = 1 then (110, { d with armed := 0, down := true }) else (0, { (({ d with armed := d.armed - 1 } : Dk).setF i ⟨q, v ++ x, v.length⟩) with calls := d.calls + 1 }) := by
    unfold Dk.append
    rw [Dk.find_arm h.up hi]
    by_cases h1 : d.armed = 1
    · simp [h1]
    · rw [if_neg h1, if_neg h1]
      have hfl : ({ d with armed := d.armed - 1 } : Dk).fl i = ⟨q, v, v.length⟩ := by simp [Dk.fl, hF]
      have h2 : ({ d with armed := d.armed - 1 } : Dk).used = d.used := rfl
      simp only [hfl, h2]
      rw [if_neg (by omega)]
  by_cases h1 : d.armed = 1
  · rw [if_pos h1] at hap
    exact ⟨_, _, hap, rfl, Nat.le_succ _, .inl ⟨rfl, rfl, by omega, fun ho picks => RawS.crash (d := { d with armed := 0, down := true }) (h.st.same rfl rfl rfl rfl) ho picks⟩⟩
  · rw [if_neg h1] at hap
    refine ⟨_, _, hap, rfl, Nat.le_refl _, .inr ⟨rfl, h.up, ?_⟩⟩
    obtain ⟨e, he⟩ : ∃ e, e = ({ (({ d with armed := d.armed - 1 } : Dk).setF i ⟨q, v ++ x, v.length⟩) with calls := d.calls + 1 } : Dk) := ⟨_, rfl⟩
    rw [← he]
    have n1 : e.names = d.names := by rw [he]; rfl
    have n2 : e.kept = d.kept := by rw [he]; rfl
    have n3 : e.changes = d.changes := by rw [he]; rfl
    have n4 : e.fs = zC9 d.fs i ⟨q, v ++ x, v.length⟩ := by rw [he]; rfl
    have n5 : e.armed = d.armed - 1 := by rw [he]; rfl
    have n6 : e.down = false := by rw [he]; exact h.up
    have n7 : e.room = d.room := by rw [he]; rfl
    have n8 : e.calls = d.calls + 1 := by rw [he]
    have hsy : e.sync s = if e.armed = 1 then (110, { e with armed := 0, down := true }) else (0, { (({ e with armed := e.armed - 1 } : Dk).setF i ⟨q, v ++ x, (v ++ x).length⟩) with calls := e.calls + 1 }) := by
      unfold Dk.sync
      rw [Dk.find_arm n6 (by rw [n1]; exact hi)]
      by_cases h1 : e.armed = 1
      · simp [h1]
      · rw [if_neg h1, if_neg h1]
        have hfl : ({ e with armed := e.armed - 1 } : Dk).fl i = ⟨q, v ++ x, v.length⟩ := by simp [Dk.fl, n4, zB8]
        simp only [hfl]
    have ho1 : ∀ j, j ≠ i → zB1 e.fs j = zB1 d.fs j := fun j hj => by rw [n4]; exact zB0 _ _ hj
    by_cases h2 : e.armed = 1
    · rw [if_pos h2] at hsy
      exact ⟨_, _, hsy, n7, by show e.calls ≤ _; omega, .inr ⟨rfl, rfl, by omega, fun ho picks => h.st.part hs hi ho n1 n2 n3 ho1 (by show zB1 e.fs i = _; rw [n4, zB8]) hb picks⟩⟩
    · rw [if_neg h2] at hsy
      refine ⟨_, _, hsy, n7, by show e.calls + 1 ≤ _; omega, .inl ⟨rfl, n6, fun ha => by show e.armed - 1 = 0; omega, fun ho => ⟨ho, n6, h.st.set (q := q) hs hi n1 n2 n3 (fun j hj => ?_) ?_ (by simpa using hb)⟩⟩⟩
      · show zB1 (zC9 e.fs i _) j = _
        rw [zB0 _ _ hj, ho1 j hj]
      · show zB1 (zC9 e.fs i _) i = _
        rw [zB8]
/-- A cut, whatever the power does. -/
theorem RawI.cut (h : RawI N B f d) (hs : s ∈ N) (hf : f s = some v) {m : Nat} (hm : m ≤ v.length) :
    ∃ k e, d.cut s m = (k, e) ∧ e.room = d.room ∧ e.calls ≤ d.calls + 1 ∧ (k = 0 ∧ e.down = false ∧ (d.armed = 0 → e.armed = 0) ∧ (e.ok → RawI N B (zDt f s (v.take m)) e) ∨ k = 110 ∧ e.down = true ∧ d.armed ≠ 0 ∧ (e.ok → ∀ picks, RawI N B f (e.crash picks))) := by
  have hu := h.st.under s hs
  rw [hf] at hu
  obtain ⟨i, q, hi, hF⟩ := hu
  have hB := h.st.len i _ hF
  have hap : d.cut s m = if d.armed = 1 then (110, { d with armed := 0, down := true }) else (0, { (({ d with armed := d.armed - 1 } : Dk).setF i ⟨q, v.take m, m⟩) with calls := d.calls + 1 }) := by
    unfold Dk.cut
    rw [Dk.find_arm h.up hi]
    by_cases h1 : d.armed = 1
    · simp [h1]
    · rw [if_neg h1, if_neg h1]
      have hfl : ({ d with armed := d.armed - 1 } : Dk).fl i = ⟨q, v, v.length⟩ := by simp [Dk.fl, hF]
      simp only [hfl]
      rw [if_neg (by omega)]
      simp
  by_cases h1 : d.armed = 1
  · rw [if_pos h1] at hap
    exact ⟨_, _, hap, rfl, Nat.le_succ _, .inr ⟨rfl, rfl, by omega, fun ho picks => RawS.crash (d := { d with armed := 0, down := true }) (h.st.same rfl rfl rfl rfl) ho picks⟩⟩
  · rw [if_neg h1] at hap
    have hl : (v.take m).length = m := by rw [List.length_take]; omega
    refine ⟨_, _, hap, rfl, Nat.le_refl _, .inl ⟨rfl, h.up, fun ha => by show d.armed - 1 = 0; omega, fun ho => ⟨ho, h.up, h.st.set (q := q) hs hi rfl rfl rfl (fun j hj => ?_) ?_ (by simp only at hB; omega)⟩⟩⟩
    · show zB1 (zC9 d.fs i _) j = _
      exact zB0 _ _ hj
    · show zB1 (zC9 d.fs i _) i = _
      rw [zB8, hl]
theorem RawI.sync (h : RawI N B f d) (ha : d.armed = 0) (hs : s ∈ N) (hf : f s = some v) : ∃ e, d.sync s = (0, e) ∧ e.room = d.room ∧ e.armed = 0 ∧ e.calls ≤ d.calls + 1 ∧ (e.ok → RawI N B f e) := by
  have hu := h.st.under s hs
  rw [hf] at hu
  obtain ⟨i, q, hi, hF⟩ := hu
  have hfl : d.fl i = ⟨q, v, v.length⟩ := by simp [Dk.fl, hF]
  have hsy := Dk.sync_up (n := s) h.up ha hi
  rw [hfl] at hsy
  have hB := h.st.len i _ hF
  refine ⟨_, hsy, rfl, ha, Nat.le_refl _, fun ho => ⟨ho, h.up, ?_⟩⟩
  have hff : zDt f s v = f := by funext n; unfold zDt; split; rename_i e1; rw [e1, hf]; rfl
  rw [← hff]
  refine h.st.set (q := q) hs hi rfl rfl rfl (fun j hj => ?_) ?_ hB
  · show zB1 (zC9 d.fs i _) j = _
    exact zB0 _ _ hj
  · show zB1 (zC9 d.fs i _) i = _
    rw [zB8]
/-- A new file, its name synced. -/
theorem RawI.make (h : RawI N B f d) (ha : d.armed = 0) (hs : s ∈ N) (hf : f s = none) (hv : zC1 s.data.toList = true) : ∃ e e2, d.create s = (0, e) ∧ e.syncDir = (0, e2) ∧ e2.room = d.room ∧ e2.armed = 0 ∧ e.calls ≤ d.calls + 1 ∧ e2.calls ≤ d.calls + 2 ∧ (e2.ok → RawI N B (zDt f s []) e2) := by
  have hu : zB1 d.names s = none := by have := h.st.under s hs; rw [hf] at this; exact this
  have hcr := Dk.create_up (n := s) h.up ha hv hu
  have hnk : s ∉ zAg d.names := (zBa _ _).1 hu
  refine ⟨_, _, hcr, Dk.syncDir_up h.up ha, rfl, ha, Nat.le_refl _, Nat.le_refl _, fun ho => ⟨ho, h.up, rfl, rfl, fun n hn => ?_, fun n hn n' hn' i h1 h2 => ?_, fun n hn => ?_, fun i F hF => ?_⟩⟩
  · have hag : n ≠ s → zB1 (zC9 d.names s (d.files + 1)) n = zB1 d.names n := fun e1 => zB0 _ _ e1
    unfold zDt
    by_cases e1 : n = s
    · subst e1; rw [if_pos rfl]; exact ⟨d.files + 1, d.files + 1, zB8 _ _ _, zBp h.ok.fresh⟩
    · rw [if_neg e1]
      exact (h.st.under n hn).same (hag e1) fun i F hi hF _ => (zD4 h.ok.fresh (h.old_id hi)).trans hF
  · have h1 : zB1 (zC9 d.names s (d.files + 1)) n = some i := h1
    have h2 : zB1 (zC9 d.names s (d.files + 1)) n' = some i := h2
    by_cases e1 : n = s
    · by_cases e2 : n' = s
      · rw [e1, e2]
      · rw [e1, zB8] at h1
        rw [zB0 _ _ e2] at h2
        cases h1
        exact absurd rfl (h.old_id h2)
    · by_cases e2 : n' = s
      · rw [e2, zB8] at h2
        rw [zB0 _ _ e1] at h1
        cases h2
        exact absurd rfl (h.old_id h1)
      · rw [zB0 _ _ e1] at h1
        rw [zB0 _ _ e2] at h2
        exact h.st.apart n hn n' hn' i h1 h2
  · have hn : n ∈ zAg (zC9 d.names s (d.files + 1)) := hn
    by_cases e1 : n = s
    · subst e1; exact .inl hs
    · obtain ⟨v, hv⟩ := zDf hn
      rw [zB0 _ _ e1] at hv
      exact h.st.keys n (zDz hv)
  · have hF : zB1 (d.fs ++ [(d.files + 1, (⟨d.files + 1, [], 0⟩ : Fl))]) i = some F := hF
    by_cases e1 : i = d.files + 1
    · subst e1; rw [zBp h.ok.fresh] at hF; cases hF; exact Nat.zero_le _
    · rw [zD4 h.ok.fresh e1] at hF; exact h.st.len i F hF
theorem RawI.lenR (h : RawI N B f d) (hs : s ∈ N) : d.lenR s = (f s).elim (107, 0) fun v => (0, v.length) := by
  have hu := h.st.under s hs
  cases hf : f s with
  | none =>
    rw [hf] at hu
    have h1 : zB1 d.names s = none := hu
    simp [Dk.lenR, Dk.file, h.up, h1]
  | some v =>
    rw [hf] at hu
    obtain ⟨i, q, k1, k2⟩ := hu
    simp [Dk.lenR, Dk.file, h.up, k1, Dk.fl, k2]
theorem RawI.readR (h : RawI N B f d) (hs : s ∈ N) (hf : f s = some v) : d.readR s 0 (v.length : Int) = (0, v) := by
  have hu := h.st.under s hs
  rw [hf] at hu
  obtain ⟨i, q, k1, k2⟩ := hu
  exact (Dk.readR_at (o := 0) (m := v.length) h.up k1 k2 (by show 0 + v.length ≤ v.length; omega)).trans (by simp)
theorem RawI.pread_none (h : RawI N B f d) (hs : s ∈ N) (hf : f s = none) : d.pread s = (107, []) := by
  have h1 := h.lenR hs
  rw [hf] at h1
  simp [Dk.pread, h1]
theorem RawI.pread_some (h : RawI N B f d) (hs : s ∈ N) (hf : f s = some (zBm v)) : d.pread s = (0, v) := by
  have h1 := h.lenR hs
  rw [hf] at h1
  have h1 : d.lenR s = (0, (zBm v).length) := h1
  have h2 := h.readR hs hf
  simp only [Dk.pread, h1, h2, open_seal]
  simp
theorem RawI.start {r : Nat} (hr : r ≤ 4194304) : RawI N B (fun _ => none) (Dk.empty r) :=
  ⟨Dk.empty_ok hr, rfl, rfl, rfl, fun n _ => rfl, fun n _ m _ i h => by simp [Dk.empty, zB1] at h, fun n hn => by simp [Dk.empty, zAg] at hn, fun i F hF => by cases hF⟩
theorem RawI.arm (h : RawI N B f d) {n : Nat} (hok : ({ d with armed := n } : Dk).ok) : RawI N B f { d with armed := n } := ⟨hok, h.up, h.st.same rfl rfl rfl rfl⟩
theorem zCz (f : ByteArray → Option (List UInt8)) (s : ByteArray) (v : List UInt8) : zDt f s v s = some v := by simp [zDt]
theorem updF_other (f : ByteArray → Option (List UInt8)) {s n : ByteArray} (v : List UInt8) (h : n ≠ s) : zDt f s v n = f n := by simp [zDt, h]
end Go.Proofs.YtdkgdjnbpjjfmaaGreatDoor
namespace Go.Proofs.YtdkgdjnbpjjfmaaGreatDoor
set_option linter.all false
open Go.RowKit
attribute [local irreducible] zAo
variable {g w : World} {L M : List HP} {ad : Nat → Addr} {p : Nat} {d : Dk}

section
variable {P : Program} {n : Nat} {ops : Array Oper} {rest : List Oper} {K : Env → World → Prop} {ρ : Env} {dst : Option Tmp} {ty : TypeId} {pos : String} {aft : Array Edge}
/-- Two texts, one behind the other. -/
theorem run_makeFuncB {fn : Fn} {fl cl : List Operand} : (execOp (ev ρ) ⟨dst, .makeFunc fn fl.toArray cl.toArray, ty, pos, aft, none⟩).run P w = .ok (.value (.func fn (fl.map (ev ρ)).toArray (cl.map (ev ρ)).toArray)) w := by
  simp [execOp, Instr.makeFunc]
/-- A method's value is called. -/
theorem lw_callvB (hd : okd n dst = true) {f : FuncId} {first : Array Value} {t : Tmp} {ats : Array TypeId} {R : Value → World → Prop} (hf : ∀ args w, (callFunc f args).run P w = .ok (.enter f args) w) (hx : ρ t = .func (.func f) first #[])
    (hc : Calls P f first w (Ret R)) (h : ∀ v w', R v w' → lw P n ops rest K (updo ρ dst v) w') :
    lw P n ops (⟨dst, .call { callee := .value (.tmp t), args := #[], argTypes := ats }, ty, pos, aft, none⟩ :: rest) K ρ w := by
  refine lw_enter hd ?_ hc h
  simp only [execOp, resolve, ev, hx, Deferred.ofValue, Sem.run_bind, Sem.run_pure, Result.andThen_ok, invoke]
  simp [hf]
end

section
variable {b3 b7 b5 b4 : Nat} {t s : ByteArray}
theorem w1_sl (hE : ErrK ad g) (hcl : d.calls < 1000000) (hs : Mem g w (zBv p d :: cells b3 [.pointer (some ⟨p, 0, none⟩)] 25 :: cells b7 [.string (zC4 s)] 9 :: M)) {b : List UInt8} {k : Nat} {d2 : Dk} (hk : d.wstep s b 0 = (k, d2)) :
    Calls Tryz.prog 90 #[.pointer (some ⟨b3, 0, none⟩), .pointer (some ⟨b7, 0, none⟩)] w (Ret fun v w' => v = zAo ad k ∧ Mem g w' (zBv p d2 :: cells b3 [.pointer (some ⟨p, 0, none⟩)] 25 :: cells b7 [.string (zC4 s)] 9 :: M)) := by
  obtain ⟨kl, ml, hl⟩ : ∃ kl ml, d.lenR (zC4 s) = (kl, ml) := ⟨_, _, rfl⟩
  have hcode := d.lenR_code (zC4 s)
  rw [hl] at hcode
  simp only at hcode
  simp only [Dk.wstep, hl] at hk
  refine zAm Tryz.func90 rfl rfl ?_
  skip
  refine zA5 (zA1 ?_)
  refine zA rfl (zA2 (v := .nilIface) rfl) ?_
  refine zA4 ?_
  refine zA5 ?_
  refine zA5 (zA1 ?_)
  refine zA rfl (zA7 uz25 rfl rfl (hs.cellAt 1 rfl rfl)) ?_
  refine zA rfl (zA7 uz9 rfl rfl (hs.cellAt 2 rfl rfl)) ?_
  refine zAa rfl en15 (len_sl hE hs (zC4 s) hl) ?_
  clear hs
  rintro _ w ⟨rfl, hs⟩
  refine zA rfl (zA0 (v := .tuple _) rfl) ?_
  refine zA rfl (zAc (v := .int .i64 _) rfl rfl) ?_
  refine zA rfl (zAc (v := zAo ad _) rfl rfl) ?_
  refine zA rfl (zA2 (v := .int .i64 _) rfl) ?_
  refine zA rfl (zA2 (v := zAo ad _) rfl) ?_
  refine zA4 (zA5 (zA1 ?_))
  refine zA rfl (zA0 (v := zAo ad _) rfl) ?_
  refine zA rfl (zA7 zCv rfl rfl (hE.cellW hs 107 (by decide) rfl)) ?_
  refine zA rfl (zEe (hE.atW hs) (by rcases hcode with h | h | h <;> (rw [h]; decide)) (by decide) rfl rfl) ?_
  refine zA4 ?_
  refine zB7 rfl ?_ ?_
  ·
   intro h13
   have g13 := of_decide_eq_true h13
   rw [if_pos (of_decide_eq_true h13)] at hk
   cases hk
   refine zA5 (zA1 ?_)
   refine zA rfl (zA2 (v := .nilIface) rfl) ?_
   refine zA4 ?_
   refine zAf ?_
   refine zBg (v := .nilIface) rfl rfl ?_
   exact ⟨_, rfl, (zB2 ad).symm, hs⟩
  ·
   intro h13
   have g13 := of_decide_eq_false h13
   rw [if_neg (of_decide_eq_false h13)] at hk
   refine zAd ?_
   refine zA5 (zA1 ?_)
   refine zA rfl (zA7 uz25 rfl rfl (hs.cellAt 1 rfl rfl)) ?_
   refine zA rfl (zA7 uz9 rfl rfl (hs.cellAt 2 rfl rfl)) ?_
   refine zAa rfl en91 (remove_sl hE hs hcl (zC4 s) hk) ?_
   clear hs
   rintro _ w ⟨rfl, hs⟩
   refine zA rfl (zA2 (v := zAo ad _) rfl) ?_
   refine zA4 ?_
   refine zAf ?_
   refine zBg (v := zAo ad _) rfl rfl ?_
   exact ⟨_, rfl, rfl, hs⟩
theorem w2_sl (hE : ErrK ad g) (hcl : d.calls < 1000000) (hs : Mem g w (zBv p d :: cells b3 [.pointer (some ⟨p, 0, none⟩)] 25 :: cells b7 [.string (zC4 s)] 9 :: M)) {b : List UInt8} {k : Nat} {d2 : Dk} (hk : d.wstep s b 1 = (k, d2)) :
    Calls Tryz.prog 92 #[.pointer (some ⟨b3, 0, none⟩), .pointer (some ⟨b7, 0, none⟩)] w (Ret fun v w' => v = zAo ad k ∧ Mem g w' (zBv p d2 :: cells b3 [.pointer (some ⟨p, 0, none⟩)] 25 :: cells b7 [.string (zC4 s)] 9 :: M)) := by
  refine zAm Tryz.func92 rfl rfl ?_
  skip
  refine zA5 (zA1 ?_)
  refine zA rfl (zA2 (v := .nilIface) rfl) ?_
  refine zA4 (zA5 (zA1 ?_))
  refine zA rfl (zA7 uz25 rfl rfl (hs.cellAt 1 rfl rfl)) ?_
  refine zA rfl (zA7 uz9 rfl rfl (hs.cellAt 2 rfl rfl)) ?_
  refine zAa rfl en34 (create_sl hE hs hcl (zC4 s) hk) ?_
  clear hs
  rintro _ w ⟨rfl, hs⟩
  refine zA rfl (zA2 (v := zAo ad _) rfl) ?_
  refine zA4 ?_
  refine zAf ?_
  refine zBg (v := zAo ad _) rfl rfl ?_
  exact ⟨_, rfl, rfl, hs⟩
theorem w3_sl (hE : ErrK ad g) (hcl : d.calls < 1000000) {a : Option Addr} {n c : Nat} (hs : Mem g w (zBv p d :: cells b3 [.pointer (some ⟨p, 0, none⟩)] 25 :: cells b7 [.string (zC4 s)] 9 :: cells b5 [.slice a n c] 23 :: M)) {b : List UInt8} (hr : Rd g M (.slice a n c) (zAl b)) (hn : n = b.length) (hlen : b.length ≤ 1000000) {k : Nat} {d2 : Dk} (hk : d.wstep s b 2 = (k, d2)) :
    Calls Tryz.prog 93 #[.pointer (some ⟨b3, 0, none⟩), .pointer (some ⟨b7, 0, none⟩), .pointer (some ⟨b5, 0, none⟩)] w (Ret fun v w' => v = zAo ad k ∧ Mem g w' (zBv p d2 :: cells b3 [.pointer (some ⟨p, 0, none⟩)] 25 :: cells b7 [.string (zC4 s)] 9 :: cells b5 [.slice a n c] 23 :: M)) := by
  refine zAm Tryz.func93 rfl rfl ?_
  skip
  refine zA5 (zA1 ?_)
  refine zA rfl (zA2 (v := .nilIface) rfl) ?_
  refine zA4 ?_
  refine zA5 ?_
  refine zAw zBt hs.tail ?_
  intro w tr hK
  replace hs := tr _ hs
  clear tr
  refine zA6 0 rfl rfl (fun w hs => zA7 uz25 rfl rfl (hs.cellAt 0 rfl rfl)) hK ?_
  refine zA6 1 rfl rfl (fun w hs => zA7 uz9 rfl rfl (hs.cellAt 1 rfl rfl)) hK ?_
  refine zA6 2 rfl rfl (fun w hs => zA7 zC2 rfl rfl (hs.cellAt 2 rfl rfl)) hK ?_
  refine zAb [3] ?_
  refine ⟨⟨_, rfl, ?_⟩, trivial⟩
  refine zAa rfl en82 (seal_sl hs ((((hr.cons).cons).cons).cons) hn (by omega)) ?_
  clear hs
  rintro _ w ⟨a7, c7, rfl, hs⟩
  clear hK
  have hK := hs.tail.tail
  refine zA4 ⟨hK, ?_⟩
  refine zAb [4] ?_
  refine ⟨⟨_, rfl, ?_⟩, trivial⟩
  refine zAa rfl en19 (append_sl (d := d) (L := own _ _ :: _) hE (hs.arr [1, 0] 2 (by decide)) hcl (zC4 s) (x := zBm b) (Rd.own 0 rfl) rfl (by rw [zBs]; omega) hk) ?_
  clear hs
  rintro _ w ⟨rfl, hs⟩
  clear hK
  have hK := hs.tail.tail
  refine zA4 ⟨hK, ?_⟩
  refine zA6 5 rfl rfl (fun w hs => zA2 (v := zAo ad _) rfl) hK ?_
  refine zAs (by kernel_rfl) ?_
  clear hK
  refine zAf ?_
  refine zBg (v := zAo ad _) rfl rfl ?_
  exact ⟨_, rfl, rfl, hs.drop 1⟩
theorem w4_sl (hE : ErrK ad g) (hcl : d.calls < 1000000) (hs : Mem g w (zBv p d :: cells b3 [.pointer (some ⟨p, 0, none⟩)] 25 :: cells b7 [.string (zC4 s)] 9 :: M)) {b : List UInt8} {k : Nat} {d2 : Dk} (hk : d.wstep s b 3 = (k, d2)) :
    Calls Tryz.prog 94 #[.pointer (some ⟨b3, 0, none⟩), .pointer (some ⟨b7, 0, none⟩)] w (Ret fun v w' => v = zAo ad k ∧ Mem g w' (zBv p d2 :: cells b3 [.pointer (some ⟨p, 0, none⟩)] 25 :: cells b7 [.string (zC4 s)] 9 :: M)) := by
  refine zAm Tryz.func94 rfl rfl ?_
  skip
  refine zA5 (zA1 ?_)
  refine zA rfl (zA2 (v := .nilIface) rfl) ?_
  refine zA4 (zA5 (zA1 ?_))
  refine zA rfl (zA7 uz25 rfl rfl (hs.cellAt 1 rfl rfl)) ?_
  refine zA rfl (zA7 uz9 rfl rfl (hs.cellAt 2 rfl rfl)) ?_
  refine zAa rfl en39 (sync_sl hE hs hcl (zC4 s) hk) ?_
  clear hs
  rintro _ w ⟨rfl, hs⟩
  refine zA rfl (zA2 (v := zAo ad _) rfl) ?_
  refine zA4 ?_
  refine zAf ?_
  refine zBg (v := zAo ad _) rfl rfl ?_
  exact ⟨_, rfl, rfl, hs⟩
theorem w5_sl (hE : ErrK ad g) (hcl : d.calls < 1000000) (hs : Mem g w (zBv p d :: cells b3 [.pointer (some ⟨p, 0, none⟩)] 25 :: cells b7 [.string (zC4 s)] 9 :: cells b4 [.string s] 9 :: M)) {b : List UInt8} {k : Nat} {d2 : Dk} (hk : d.wstep s b 4 = (k, d2)) :
    Calls Tryz.prog 95 #[.pointer (some ⟨b3, 0, none⟩), .pointer (some ⟨b7, 0, none⟩), .pointer (some ⟨b4, 0, none⟩)] w (Ret fun v w' => v = zAo ad k ∧ Mem g w' (zBv p d2 :: cells b3 [.pointer (some ⟨p, 0, none⟩)] 25 :: cells b7 [.string (zC4 s)] 9 :: cells b4 [.string s] 9 :: M)) := by
  refine zAm Tryz.func95 rfl rfl ?_
  skip
  refine zA5 (zA1 ?_)
  refine zA rfl (zA2 (v := .nilIface) rfl) ?_
  refine zA4 (zA5 (zA1 ?_))
  refine zA rfl (zA7 uz25 rfl rfl (hs.cellAt 1 rfl rfl)) ?_
  refine zA rfl (zA7 uz9 rfl rfl (hs.cellAt 2 rfl rfl)) ?_
  refine zA rfl (zA7 uz9 rfl rfl (hs.cellAt 3 rfl rfl)) ?_
  refine zAa rfl en96 (rename_sl hE hs hcl (zC4 s) s hk) ?_
  clear hs
  rintro _ w ⟨rfl, hs⟩
  refine zA rfl (zA2 (v := zAo ad _) rfl) ?_
  refine zA4 ?_
  refine zAf ?_
  refine zBg (v := zAo ad _) rfl rfl ?_
  exact ⟨_, rfl, rfl, hs⟩
end
theorem readR_len {n : ByteArray} {m : Nat} {c : Nat} {l : List UInt8} (h : d.readR n 0 (m : Int) = (c, l)) (hm : m ≤ 4194304) : l.length ≤ 4194304 := by
  unfold Dk.readR at h
  split at h
  · split at h
    · cases h; simp
    · cases h; simp; omega
  · cases h; simp
def stepsL (p b3 b7 b5 b4 : Nat) : List Value := [.func (.func 90) #[] #[.pointer (some ⟨b3, 0, none⟩), .pointer (some ⟨b7, 0, none⟩)], .func (.func 92) #[] #[.pointer (some ⟨b3, 0, none⟩), .pointer (some ⟨b7, 0, none⟩)], .func (.func 93) #[] #[.pointer (some ⟨b3, 0, none⟩), .pointer (some ⟨b7, 0, none⟩), .pointer (some ⟨b5, 0, none⟩)], .func (.func 94) #[] #[.pointer (some ⟨b3, 0, none⟩), .pointer (some ⟨b7, 0, none⟩)], .func (.func 95) #[] #[.pointer (some ⟨b3, 0, none⟩), .pointer (some ⟨b7, 0, none⟩), .pointer (some ⟨b4, 0, none⟩)], .func (.func 35) #[.pointer (some ⟨p, 0, none⟩)] #[]]
set_option maxRecDepth 100000 in
theorem write_sl (hE : ErrK ad g) (hcl : d.calls < 900000) (hs : Mem g w (zBv p d :: L)) (s : ByteArray) (hsl : s.size ≤ 1000000) {b : List UInt8} {a : Option Addr} {n c : Nat} (hr : Rd g L (.slice a n c) (zAl b)) (hn : n = b.length) (hlen : b.length ≤ 1000000) {k : Nat} {d2 : Dk} (hk : d.write s b = (k, d2)) :
    Calls Tryz.prog 51 #[.pointer (some ⟨p, 0, none⟩), .string s, .slice a n c] w (Ret fun v w' => v = zAo ad k ∧ Mem g w' (zBv p d2 :: L)) := by
  refine zAm Tryz.func51 rfl rfl ?_
  skip
  refine zA5 (zA1 ?_)
  refine zCd (v := .pointer (some _)) hs rfl rfl ?_
  clear hs
  intro b3 w hs
  try simp only [List.set_cons_succ, List.set_cons_zero] at hs
  refine zCd (v := .string _) hs rfl rfl ?_
  clear hs
  intro b4 w hs
  try simp only [List.set_cons_succ, List.set_cons_zero] at hs
  refine zCd (v := .slice _ _ _) hs rfl rfl ?_
  clear hs
  intro b5 w hs
  try simp only [List.set_cons_succ, List.set_cons_zero] at hs
  refine zA rfl (zA2 (v := .nilIface) rfl) ?_
  refine zA4 (zA5 (zA1 ?_))
  refine zA rfl (zA7 uz9 rfl rfl (hs.cellAt 1 rfl rfl)) ?_
  refine zA rfl (zFf (a := s) (b := ⟨#[46, 110, 101, 119]⟩) rfl rfl (by show s.size + 4 ≤ _; omega)) ?_
  refine zBh hs rfl ze9 ?_
  clear hs
  intro b7 w hs
  try simp only [List.set_cons_succ, List.set_cons_zero] at hs
  refine zAv (v := .string _) hs 0 rfl sz9 rfl rfl rfl rfl ?_
  clear hs
  intro w hs
  try simp only [List.set_cons_succ, List.set_cons_zero] at hs
  refine zA4 ?_
  refine zA5 ?_
  refine zA5 (zA1 ?_)
  refine zA rfl (zA7 uz9 rfl rfl (hs.cellAt 2 rfl rfl)) ?_
  refine zAa rfl en74 (valid_sl hs s) ?_
  clear hs
  rintro _ w ⟨rfl, hs⟩
  refine zA rfl (zBz rfl) ?_
  refine zA rfl (zA0 (v := .bool _) rfl) ?_
  refine zB4 (t := _) (d := 16) rfl ?_ ?_
  ·
   intro h14
   replace h14 := zEl h14
   unfold Dk.write at hk
   rw [if_neg (fun e => by rw [h14] at e; cases e.1)] at hk
   cases hk
   refine zA9 rfl rfl rfl (zC7 h14) ?_
   refine zA9 rfl rfl rfl (zC7 h14) ?_
   refine zA9 rfl rfl rfl (zC7 h14) ?_
   refine zA rfl (zAi (v := .bool _) rfl (zC7 h14) rfl) ?_
   refine zA4 ?_
   refine zB9 rfl rfl ?_
   refine zA5 (zA1 ?_)
   refine zA rfl (zA7 zCv rfl rfl (hE.cellW hs 106 (by decide) rfl)) ?_
   refine zA rfl (zA2 (v := zAo ad _) rfl) ?_
   refine zA4 ?_
   refine zAf ?_
   refine zBg (v := zAo ad _) rfl rfl ?_
   exact ⟨_, rfl, rfl, hs.suffix 4 rfl⟩
  ·
   intro h14
   replace h14 := zE h14
   refine zAk rfl rfl (zBu h14) ?_
   refine zA rfl (zA7 uz9 rfl rfl (hs.cellAt 0 rfl rfl)) ?_
   refine zAk rfl rfl (zBu h14) ?_
   refine zAa rfl en74 (valid_sl hs (zC4 s)) ?_
   clear hs
   rintro _ w ⟨rfl, hs⟩
   refine zAk rfl rfl (zBu h14) ?_
   refine zA rfl (zBz rfl) ?_
   refine zA rfl (zAj (v := .bool _) rfl (zBu h14) rfl) ?_
   refine zA4 ?_
   refine zB7 rfl ?_ ?_
   ·
    intro h18
    replace h18 := zEl h18
    unfold Dk.write at hk
    rw [if_neg (fun e => by rw [h18] at e; cases e.2)] at hk
    cases hk
    refine zA5 (zA1 ?_)
    refine zA rfl (zA7 zCv rfl rfl (hE.cellW hs 106 (by decide) rfl)) ?_
    refine zA rfl (zA2 (v := zAo ad _) rfl) ?_
    refine zA4 ?_
    refine zAf ?_
    refine zBg (v := zAo ad _) rfl rfl ?_
    exact ⟨_, rfl, rfl, hs.suffix 4 rfl⟩
   ·
    intro h18
    replace h18 := zE h18
    unfold Dk.write at hk
    rw [if_pos ⟨h14, h18⟩] at hk
    refine zAd ?_
    refine zA5 ?_
    refine zA5 (zA1 ?_)
    refine zA rfl (zDi) ?_
    refine zA rfl (zDi) ?_
    refine zA rfl (zDi) ?_
    refine zA rfl (zDi) ?_
    refine zA rfl (zDi) ?_
    refine zA rfl (zA7 uz25 rfl rfl (hs.cellAt 3 rfl rfl)) ?_
    refine zA rfl (run_makeFuncB (fl := [.tmp 27]) (cl := [])) ?_
    refine zCb hs rfl ((stepsL p b3 b7 b5 b4)) uz155 zs53 rfl (by simp [stepsL, Value.cells]) rfl rfl rfl ?_
    clear hs
    intro b29 w hs
    try simp only [List.set_cons_succ, List.set_cons_zero] at hs
    replace hs := hs.arr [5, 4, 1, 2, 3, 0] 6 (by decide)
    refine zA rfl (zAx uz155 rfl) ?_
    refine zA rfl (zA0 (v := .int .i64 _) rfl) ?_
    refine zA4 ?_
    refine zAt ?_
    refine zBr (X := Nat × Dk) [6, 9, 10, 31, 32, 33, 34, 35, 36, 37, 38, 39, 40] (fun x => [(31, .int .i64 (x.1 : Nat))]) (fun x w => x.1 ≤ 6 ∧ x.2.calls ≤ d.calls + x.1 ∧ Dk.wrun s b (6 - x.1) x.1 x.2 = (k, d2) ∧ Mem g w (zBv p x.2 :: cells b3 [.pointer (some ⟨p, 0, none⟩)] 25 :: cells b7 [.string (zC4 s)] 9 :: cells b5 [.slice a n c] 23 :: cells b4 [.string s] 9 :: cells b29 (stepsL p b3 b7 b5 b4) 53 :: L)) (fun x => 6 - x.1) ((0, d)) ?_ ?_ ?_
    · exact ⟨rfl, trivial⟩
    · exact ⟨Nat.zero_le _, Nat.le_refl _, hk, hs⟩
    clear hs
    rintro x ξ w hI
    obtain ⟨i, dk⟩ := x
    obtain ⟨hi6, hcl2, hrun, hs⟩ := hI
    simp only at hi6 hcl2 hrun hs
    show cw _ _ _ _ _ _ (updL (mix _ ξ _) [(31, .int .i64 (i : Nat))]) w
    refine zA5 (zA1 ?_)
    refine zA rfl (zB3 rfl rfl) ?_
    refine zA4 ?_
    refine zA5 ?_
    refine zB7 rfl ?_ ?_
    ·
     intro h32
     have g32 := of_decide_eq_true h32
     obtain ⟨ks, ds, hst⟩ : ∃ ks ds, dk.wstep s b i = (ks, ds) := ⟨_, _, rfl⟩
     have hr2 : (if (dk.wstep s b i).1 = 0 then Dk.wrun s b (5 - i) (i + 1) (dk.wstep s b i).2 else dk.wstep s b i) = (k, d2) := by rw [← hrun, show 6 - i = (5 - i) + 1 by omega]; rfl
     rw [hst] at hr2
     simp only at hr2
     have hcs : ds.calls ≤ dk.calls + 1 := by have := dk.wstep_calls s b i; rw [hst] at this; exact this
     refine zAd ?_
     refine zA5 ?_
     refine zAt ?_
     refine zA5 ?_
     obtain rfl | rfl | rfl | rfl | rfl | rfl : i = 0 ∨ i = 1 ∨ i = 2 ∨ i = 3 ∨ i = 4 ∨ i = 5 := by omega
     ·
      refine zA1 ?_
      refine zA rfl (zBo uz155 sz53 rfl rfl rfl (by omega) rfl) ?_
      refine zA rfl (zA7 uz53 rfl rfl (hs.cellAt 5 rfl rfl)) ?_
      refine zA rfl (zA2 (v := .func _ _ _) rfl) ?_
      refine zA4 (zA5 (zA1 ?_))
      refine zA rfl (zA0 (v := .func _ _ _) rfl) ?_
      refine lw_callv0 rfl en90 rfl (w1_sl hE (by omega) hs hst) ?_
      clear hs
      rintro _ w ⟨rfl, hs⟩
      refine zA rfl (zA2 (v := zAo ad _) rfl) ?_
      refine zA4 (zA5 (zA1 ?_))
      refine zA rfl (zA0 (v := zAo ad _) rfl) ?_
      refine zA rfl (zAy (ad := ad) rfl) ?_
      refine zA4 ?_
      refine zB7 rfl ?_ ?_
      ·
       intro h38
       have g38 := ne_t h38
       have hz : ks ≠ 0 := by simpa using h38
       rw [if_neg hz] at hr2
       cases hr2
       refine zA5 (zA1 ?_)
       refine zA rfl (zA0 (v := zAo ad _) rfl) ?_
       refine zA rfl (zA2 (v := zAo ad _) rfl) ?_
       refine zA4 ?_
       refine zAf ?_
       refine zBg (v := zAo ad _) rfl rfl ?_
       exact ⟨_, rfl, rfl, hs.arr [0] 6 (by decide)⟩
      ·
       intro h38
       have g38 := ne_f h38
       have hz : ks = 0 := by simpa using h38
       rw [if_pos hz] at hr2
       refine zAd ?_
       refine zA1 ?_
       refine zA rfl (zAp rfl rfl rfl (inI (by omega) (by omega))) ?_
       refine zA rfl (zA0 (v := .int .i64 _) rfl) ?_
       refine zA4 ?_
       exact ⟨(1, ds), by simp only; omega, ⟨by simp only; omega, by simp only; omega, hr2, hs⟩, ⟨rfl, trivial⟩, by repeat (first | exact Out.mix _ _ _ | refine Out.updo rfl ?_ | refine Out.upd rfl ?_ | refine Out.mixIn rfl ?_)⟩
     ·
      refine zA1 ?_
      refine zA rfl (zBo uz155 sz53 rfl rfl rfl (by omega) rfl) ?_
      refine zA rfl (zA7 uz53 rfl rfl (hs.cellAt 5 rfl rfl)) ?_
      refine zA rfl (zA2 (v := .func _ _ _) rfl) ?_
      refine zA4 (zA5 (zA1 ?_))
      refine zA rfl (zA0 (v := .func _ _ _) rfl) ?_
      refine lw_callv0 rfl en92 rfl (w2_sl hE (by omega) hs hst) ?_
      clear hs
      rintro _ w ⟨rfl, hs⟩
      refine zA rfl (zA2 (v := zAo ad _) rfl) ?_
      refine zA4 (zA5 (zA1 ?_))
      refine zA rfl (zA0 (v := zAo ad _) rfl) ?_
      refine zA rfl (zAy (ad := ad) rfl) ?_
      refine zA4 ?_
      refine zB7 rfl ?_ ?_
      ·
       intro h38
       have g38 := ne_t h38
       have hz : ks ≠ 0 := by simpa using h38
       rw [if_neg hz] at hr2
       cases hr2
       refine zA5 (zA1 ?_)
       refine zA rfl (zA0 (v := zAo ad _) rfl) ?_
       refine zA rfl (zA2 (v := zAo ad _) rfl) ?_
       refine zA4 ?_
       refine zAf ?_
       refine zBg (v := zAo ad _) rfl rfl ?_
       exact ⟨_, rfl, rfl, hs.arr [0] 6 (by decide)⟩
      ·
       intro h38
       have g38 := ne_f h38
       have hz : ks = 0 := by simpa using h38
       rw [if_pos hz] at hr2
       refine zAd ?_
       refine zA1 ?_
       refine zA rfl (zAp rfl rfl rfl (inI (by omega) (by omega))) ?_
       refine zA rfl (zA0 (v := .int .i64 _) rfl) ?_
       refine zA4 ?_
       exact ⟨(2, ds), by simp only; omega, ⟨by simp only; omega, by simp only; omega, hr2, hs⟩, ⟨rfl, trivial⟩, by repeat (first | exact Out.mix _ _ _ | refine Out.updo rfl ?_ | refine Out.upd rfl ?_ | refine Out.mixIn rfl ?_)⟩
     ·
      refine zA1 ?_
      refine zA rfl (zBo uz155 sz53 rfl rfl rfl (by omega) rfl) ?_
      refine zA rfl (zA7 uz53 rfl rfl (hs.cellAt 5 rfl rfl)) ?_
      refine zA rfl (zA2 (v := .func _ _ _) rfl) ?_
      refine zA4 (zA5 (zA1 ?_))
      refine zA rfl (zA0 (v := .func _ _ _) rfl) ?_
      refine lw_callv0 rfl en93 rfl (w3_sl hE (by omega) hs ((hr.cons).cons) hn hlen hst) ?_
      clear hs
      rintro _ w ⟨rfl, hs⟩
      refine zA rfl (zA2 (v := zAo ad _) rfl) ?_
      refine zA4 (zA5 (zA1 ?_))
      refine zA rfl (zA0 (v := zAo ad _) rfl) ?_
      refine zA rfl (zAy (ad := ad) rfl) ?_
      refine zA4 ?_
      refine zB7 rfl ?_ ?_
      ·
       intro h38
       have g38 := ne_t h38
       have hz : ks ≠ 0 := by simpa using h38
       rw [if_neg hz] at hr2
       cases hr2
       refine zA5 (zA1 ?_)
       refine zA rfl (zA0 (v := zAo ad _) rfl) ?_
       refine zA rfl (zA2 (v := zAo ad _) rfl) ?_
       refine zA4 ?_
       refine zAf ?_
       refine zBg (v := zAo ad _) rfl rfl ?_
       exact ⟨_, rfl, rfl, hs.arr [0] 6 (by decide)⟩
      ·
       intro h38
       have g38 := ne_f h38
       have hz : ks = 0 := by simpa using h38
       rw [if_pos hz] at hr2
       refine zAd ?_
       refine zA1 ?_
       refine zA rfl (zAp rfl rfl rfl (inI (by omega) (by omega))) ?_
       refine zA rfl (zA0 (v := .int .i64 _) rfl) ?_
       refine zA4 ?_
       exact ⟨(3, ds), by simp only; omega, ⟨by simp only; omega, by simp only; omega, hr2, hs⟩, ⟨rfl, trivial⟩, by repeat (first | exact Out.mix _ _ _ | refine Out.updo rfl ?_ | refine Out.upd rfl ?_ | refine Out.mixIn rfl ?_)⟩
     ·
      refine zA1 ?_
      refine zA rfl (zBo uz155 sz53 rfl rfl rfl (by omega) rfl) ?_
      refine zA rfl (zA7 uz53 rfl rfl (hs.cellAt 5 rfl rfl)) ?_
      refine zA rfl (zA2 (v := .func _ _ _) rfl) ?_
      refine zA4 (zA5 (zA1 ?_))
      refine zA rfl (zA0 (v := .func _ _ _) rfl) ?_
      refine lw_callv0 rfl en94 rfl (w4_sl hE (by omega) hs hst) ?_
      clear hs
      rintro _ w ⟨rfl, hs⟩
      refine zA rfl (zA2 (v := zAo ad _) rfl) ?_
      refine zA4 (zA5 (zA1 ?_))
      refine zA rfl (zA0 (v := zAo ad _) rfl) ?_
      refine zA rfl (zAy (ad := ad) rfl) ?_
      refine zA4 ?_
      refine zB7 rfl ?_ ?_
      ·
       intro h38
       have g38 := ne_t h38
       have hz : ks ≠ 0 := by simpa using h38
       rw [if_neg hz] at hr2
       cases hr2
       refine zA5 (zA1 ?_)
       refine zA rfl (zA0 (v := zAo ad _) rfl) ?_
       refine zA rfl (zA2 (v := zAo ad _) rfl) ?_
       refine zA4 ?_
       refine zAf ?_
       refine zBg (v := zAo ad _) rfl rfl ?_
       exact ⟨_, rfl, rfl, hs.arr [0] 6 (by decide)⟩
      ·
       intro h38
       have g38 := ne_f h38
       have hz : ks = 0 := by simpa using h38
       rw [if_pos hz] at hr2
       refine zAd ?_
       refine zA1 ?_
       refine zA rfl (zAp rfl rfl rfl (inI (by omega) (by omega))) ?_
       refine zA rfl (zA0 (v := .int .i64 _) rfl) ?_
       refine zA4 ?_
       exact ⟨(4, ds), by simp only; omega, ⟨by simp only; omega, by simp only; omega, hr2, hs⟩, ⟨rfl, trivial⟩, by repeat (first | exact Out.mix _ _ _ | refine Out.updo rfl ?_ | refine Out.upd rfl ?_ | refine Out.mixIn rfl ?_)⟩
     ·
      refine zA1 ?_
      refine zA rfl (zBo uz155 sz53 rfl rfl rfl (by omega) rfl) ?_
      refine zA rfl (zA7 uz53 rfl rfl (hs.cellAt 5 rfl rfl)) ?_
      refine zA rfl (zA2 (v := .func _ _ _) rfl) ?_
      refine zA4 (zA5 (zA1 ?_))
      refine zA rfl (zA0 (v := .func _ _ _) rfl) ?_
      refine lw_callv0 rfl en95 rfl (w5_sl hE (by omega) (M := cells b5 [.slice a n c] 23 :: cells b29 (stepsL p b3 b7 b5 b4) 53 :: L) (hs.arr [0, 1, 2, 4, 3, 5] 6 (by decide)) hst) ?_
      clear hs
      rintro _ w ⟨rfl, hs⟩
      replace hs := hs.arr [0, 1, 2, 4, 3, 5] 6 (by decide)
      refine zA rfl (zA2 (v := zAo ad _) rfl) ?_
      refine zA4 (zA5 (zA1 ?_))
      refine zA rfl (zA0 (v := zAo ad _) rfl) ?_
      refine zA rfl (zAy (ad := ad) rfl) ?_
      refine zA4 ?_
      refine zB7 rfl ?_ ?_
      ·
       intro h38
       have g38 := ne_t h38
       have hz : ks ≠ 0 := by simpa using h38
       rw [if_neg hz] at hr2
       cases hr2
       refine zA5 (zA1 ?_)
       refine zA rfl (zA0 (v := zAo ad _) rfl) ?_
       refine zA rfl (zA2 (v := zAo ad _) rfl) ?_
       refine zA4 ?_
       refine zAf ?_
       refine zBg (v := zAo ad _) rfl rfl ?_
       exact ⟨_, rfl, rfl, hs.arr [0] 6 (by decide)⟩
      ·
       intro h38
       have g38 := ne_f h38
       have hz : ks = 0 := by simpa using h38
       rw [if_pos hz] at hr2
       refine zAd ?_
       refine zA1 ?_
       refine zA rfl (zAp rfl rfl rfl (inI (by omega) (by omega))) ?_
       refine zA rfl (zA0 (v := .int .i64 _) rfl) ?_
       refine zA4 ?_
       exact ⟨(5, ds), by simp only; omega, ⟨by simp only; omega, by simp only; omega, hr2, hs⟩, ⟨rfl, trivial⟩, by repeat (first | exact Out.mix _ _ _ | refine Out.updo rfl ?_ | refine Out.upd rfl ?_ | refine Out.mixIn rfl ?_)⟩
     ·
      refine zA1 ?_
      refine zA rfl (zBo uz155 sz53 rfl rfl rfl (by omega) rfl) ?_
      refine zA rfl (zA7 uz53 rfl rfl (hs.cellAt 5 rfl rfl)) ?_
      refine zA rfl (zA2 (v := .func _ _ _) rfl) ?_
      refine zA4 (zA5 (zA1 ?_))
      refine zA rfl (zA0 (v := .func _ _ _) rfl) ?_
      refine lw_callvB rfl en35 rfl (syncDir_sl hE hs (by omega) hst) ?_
      clear hs
      rintro _ w ⟨rfl, hs⟩
      refine zA rfl (zA2 (v := zAo ad _) rfl) ?_
      refine zA4 (zA5 (zA1 ?_))
      refine zA rfl (zA0 (v := zAo ad _) rfl) ?_
      refine zA rfl (zAy (ad := ad) rfl) ?_
      refine zA4 ?_
      refine zB7 rfl ?_ ?_
      ·
       intro h38
       have g38 := ne_t h38
       have hz : ks ≠ 0 := by simpa using h38
       rw [if_neg hz] at hr2
       cases hr2
       refine zA5 (zA1 ?_)
       refine zA rfl (zA0 (v := zAo ad _) rfl) ?_
       refine zA rfl (zA2 (v := zAo ad _) rfl) ?_
       refine zA4 ?_
       refine zAf ?_
       refine zBg (v := zAo ad _) rfl rfl ?_
       exact ⟨_, rfl, rfl, hs.arr [0] 6 (by decide)⟩
      ·
       intro h38
       have g38 := ne_f h38
       have hz : ks = 0 := by simpa using h38
       rw [if_pos hz] at hr2
       refine zAd ?_
       refine zA1 ?_
       refine zA rfl (zAp rfl rfl rfl (inI (by omega) (by omega))) ?_
       refine zA rfl (zA0 (v := .int .i64 _) rfl) ?_
       refine zA4 ?_
       exact ⟨(6, ds), by simp only; omega, ⟨by simp only; omega, by simp only; omega, hr2, hs⟩, ⟨rfl, trivial⟩, by repeat (first | exact Out.mix _ _ _ | refine Out.updo rfl ?_ | refine Out.upd rfl ?_ | refine Out.mixIn rfl ?_)⟩
    ·
     intro h32
     have g32 := of_decide_eq_false h32
     refine zBk rfl ?_
     refine zA5 (zA1 ?_)
     refine zA rfl (zA2 (v := .nilIface) rfl) ?_
     refine zA4 ?_
     refine zAf ?_
     refine zBg (v := .nilIface) rfl rfl ?_
     obtain rfl : i = 6 := by omega
     cases hrun
     exact ⟨_, rfl, (zB2 ad).symm, hs.arr [0] 6 (by decide)⟩
theorem pread_sl (hP : ErrP ad g) (hs : Mem g w (zBv p d :: L)) (s : ByteArray) {k : Nat} {b : List UInt8} (hk : d.pread s = (k, b)) : Calls Tryz.prog 67 #[.pointer (some ⟨p, 0, none⟩), .string s] w (Ret fun v w' => ∃ a c, v = .tuple #[.slice a b.length c, zAo ad k] ∧ Mem g w' (own (.slice a b.length c) (zAl b) :: zBv p d :: L)) := by
  have hE := hP.ofPoint
  obtain ⟨ho, _⟩ := hs.openD
  have hle := ho.lenR_le s
  obtain ⟨kl, m, hl⟩ : ∃ kl m, d.lenR s = (kl, m) := ⟨_, _, rfl⟩
  rw [hl] at hle
  simp only at hle
  obtain ⟨kr, x, hr⟩ : ∃ kr x, d.readR s 0 (m : Int) = (kr, x) := ⟨_, _, rfl⟩
  simp only [Dk.pread, hl, hr] at hk
  refine zAm Tryz.func67 rfl rfl ?_
  skip
  refine zA5 (zA1 ?_)
  refine zA rfl (zA2 (v := .slice _ _ _) rfl) ?_
  refine zA rfl (zA2 (v := .nilIface) rfl) ?_
  refine zA4 (zA5 (zA1 ?_))
  refine zA rfl (zA0 (v := .pointer (some _)) rfl) ?_
  refine zA rfl (zA0 (v := .string _) rfl) ?_
  refine zAa rfl en15 (len_sl hE hs s hl) ?_
  clear hs
  rintro _ w ⟨rfl, hs⟩
  refine zA rfl (zA0 (v := .tuple _) rfl) ?_
  refine zA rfl (zAc (v := .int .i64 _) rfl rfl) ?_
  refine zA rfl (zAc (v := zAo ad _) rfl rfl) ?_
  refine zA rfl (zA2 (v := .int .i64 _) rfl) ?_
  refine zA rfl (zA2 (v := zAo ad _) rfl) ?_
  refine zA4 ?_
  refine zA5 ?_
  refine zA5 (zA1 ?_)
  refine zA rfl (zA0 (v := zAo ad _) rfl) ?_
  refine zA rfl (zAy (ad := ad) rfl) ?_
  refine zA4 ?_
  refine zB7 rfl ?_ ?_
  ·
   intro h16
   have g16 := ne_t h16
   have hz : kl ≠ 0 := by simpa using h16
   rw [if_pos hz] at hk
   cases hk
   refine zA5 (zA1 ?_)
   refine zA rfl (zA0 (v := zAo ad _) rfl) ?_
   refine zA rfl (zA2 (v := .slice _ _ _) rfl) ?_
   refine zA rfl (zA2 (v := zAo ad _) rfl) ?_
   refine zA4 ?_
   refine zAf ?_
   refine res2 (v := .slice _ _ _) (v2 := zAo ad _) rfl rfl rfl ?_
   exact ⟨_, rfl, none, 0, rfl, hs.addE (zE5 _)⟩
  ·
   intro h16
   have g16 := ne_f h16
   have hz : kl = 0 := by simpa using h16
   rw [if_neg (by omega)] at hk
   refine zAd ?_
   refine zA5 (zA1 ?_)
   refine zA rfl (zA0 (v := .pointer (some _)) rfl) ?_
   refine zA rfl (zA0 (v := .string _) rfl) ?_
   refine zA rfl (zA0 (v := .int .i64 _) rfl) ?_
   refine zAa rfl en76 (read_sl hE hs s (off := 0) (m := m) (inI (by decide) (by decide)) (inI (by omega) (by omega)) hr) ?_
   clear hs
   rintro _ w ⟨ar, cr, rfl, hs⟩
   refine zA rfl (zA0 (v := .tuple _) rfl) ?_
   refine zA rfl (zAc (v := .slice _ _ _) rfl rfl) ?_
   refine zA rfl (zAc (v := zAo ad _) rfl rfl) ?_
   refine zA rfl (zA2 (v := .slice _ _ _) rfl) ?_
   refine zA rfl (zA2 (v := zAo ad _) rfl) ?_
   refine zA4 ?_
   refine zA5 ?_
   refine zA5 (zA1 ?_)
   refine zA rfl (zA0 (v := zAo ad _) rfl) ?_
   refine zA rfl (zAy (ad := ad) rfl) ?_
   refine zA4 ?_
   refine zB7 rfl ?_ ?_
   ·
    intro h26
    have g26 := ne_t h26
    have hz2 : kr ≠ 0 := by simpa using h26
    rw [if_pos hz2] at hk
    cases hk
    refine zA5 (zA1 ?_)
    refine zA rfl (zA0 (v := zAo ad _) rfl) ?_
    refine zA rfl (zA2 (v := .slice _ _ _) rfl) ?_
    refine zA rfl (zA2 (v := zAo ad _) rfl) ?_
    refine zA4 ?_
    refine zAf ?_
    refine res2 (v := .slice _ _ _) (v2 := zAo ad _) rfl rfl rfl ?_
    exact ⟨_, rfl, none, 0, rfl, hs.tail.addE (zE5 _)⟩
   ·
    intro h26
    have g26 := ne_f h26
    have hz2 : kr = 0 := by simpa using h26
    rw [if_neg (by omega)] at hk
    obtain ⟨_, hoc, _⟩ := hs.ownForm 0 rfl
    have hxl : x.length ≤ 4194304 := readR_len hr hle
    refine zAd ?_
    refine zA5 (zA1 ?_)
    refine zA rfl (zA0 (v := .slice _ _ _) rfl) ?_
    refine zAa rfl en108 (copen_sl hP hs (hs.rdOwn 0 rfl) rfl hoc (by omega) hk) ?_
    clear hs
    rintro _ w ⟨ao, co, rfl, hs⟩
    refine zA rfl (zAc (v := .slice _ _ _) rfl rfl) ?_
    refine zA rfl (zAc (v := zAo ad _) rfl rfl) ?_
    refine zA rfl (zA2 (v := .slice _ _ _) rfl) ?_
    refine zA rfl (zA2 (v := zAo ad _) rfl) ?_
    refine zA4 ?_
    refine zAf ?_
    refine res2 (v := .slice _ _ _) (v2 := zAo ad _) rfl rfl rfl ?_
    exact ⟨_, rfl, ao, co, rfl, hs.drop 1⟩
end Go.Proofs.YtdkgdjnbpjjfmaaGreatDoor
namespace Go.Proofs.YtdkgdjnbpjjfmaaGreatDoor
set_option linter.all false
open Go.RowKit
attribute [local irreducible] zAo eV
variable {g w : World} {L M : List HP} {ad : Nat → Addr} {p d pv ev : Nat} {dk : Dk} {f : ByteArray → Option (List UInt8)} {V U : Vw} {q r c n : Nat} {b : List UInt8}

/-! ### the files -/
def mtN : ByteArray := ⟨#[109, 101, 116, 97]⟩
def snN : ByteArray := ⟨#[109, 101, 116, 97, 45, 115, 110, 97, 112]⟩
abbrev LgN : List ByteArray := [mtN, snN]
theorem lgN_new : ∀ n ∈ LgN, zC4 snN ≠ n := by decide +kernel
theorem mtN_valid : zC1 mtN.data.toList = true := by decide +kernel
theorem snN_valid : zC1 snN.data.toList = true := by decide +kernel
theorem snN_valid2 : zC1 (zC4 snN).data.toList = true := by decide +kernel
theorem mt_sn : mtN ≠ snN := by decide +kernel
def snapB (q : Nat) (V : Vw) : List UInt8 := zAz q ++ vwB V
/-- What the snapshot tells. -/
def Snp (f : ByteArray → Option (List UInt8)) (V : Vw) (q : Nat) : Prop := f snN = none ∧ V = [] ∧ q = 0 ∨ f snN = some (zBm (snapB q V))
theorem updF_self {s : ByteArray} {v : List UInt8} (h : f s = some v) : zDt f s v = f := by
  funext n
  unfold zDt
  split
  · rename_i e; rw [e, h]
  · rfl
theorem updF_twice (f : ByteArray → Option (List UInt8)) (s : ByteArray) (u v : List UInt8) : zDt (zDt f s u) s v = zDt f s v := by
  funext n
  unfold zDt
  split
  · rfl
  · rfl
def zF3 : List Nat := [101, 102, 103, 104, 105, 106, 107, 108, 109, 110, 112, 113]
abbrev ErrM (ad : Nat → Addr) (g : World) : Prop := Errs zF3 ad g.heap.size g
theorem Errs.toV (h : ErrM ad g) : ErrV ad g := Errs.sub h (fun c hc => by simp only [viewCodes, zF3, List.mem_cons, List.not_mem_nil, or_false] at *; omega)
theorem Errs.toK (h : ErrM ad g) : ErrK ad g := Errs.sub h (fun c hc => by simp only [zDp, zF3, List.mem_cons, List.not_mem_nil, or_false] at *; omega)
theorem Errs.toP (h : ErrM ad g) : ErrP ad g := Errs.sub h (fun c hc => by simp only [zF, zF3, List.mem_cons, List.not_mem_nil, or_false] at *; omega)
theorem Errs.toW (h : ErrM ad g) : ErrW ad g := Errs.sub h (fun c hc => by simp only [vintCodes, zF3, List.mem_cons, List.not_mem_nil, or_false] at *; omega)
theorem Ent.inv (h : Ent V q b U r c n) (hb : b ≠ []) : (ErdC b Option.none ∧ U = V ∧ r = q ∧ c = 0 ∧ n = 0) ∨ (∃ s z k x, ErdC b (some (s, (k, x), z)) ∧ s ≠ q + 1 ∧ U = V ∧ r = q ∧ c = 0 ∧ n = 0) ∨ (∃ z k x, ErdC b (some (q + 1, (k, x), z)) ∧ (V.apply k x).1.1 ≠ 0 ∧ U = V ∧ r = q ∧ c = 0 ∧ n = 0) ∨ (∃ z k x c' n', ErdC b (some (q + 1, (k, x), z)) ∧ (V.apply k x).1 = (0, Option.none) ∧ Ent (V.apply k x).2 (q + 1) (b.drop z) U r c' n' ∧ c = c' + 1 ∧ n = n' + z) := by
  cases h with
  | none h => exact .inl ⟨h.resolve_left hb, rfl, rfl, rfl, rfl⟩
  | @bad _ _ s z e _ h hq =>
    obtain ⟨k, x⟩ := e
    by_cases h1 : s = q + 1
    · subst h1; exact .inr (.inr (.inl ⟨z, k, x, h, hq.resolve_left (fun e => e rfl), rfl, rfl, rfl, rfl⟩))
    · exact .inr (.inl ⟨s, z, k, x, h, h1, rfl, rfl, rfl, rfl⟩)
  | @step _ _ _ _ z c' n' e _ h ha hn =>
    obtain ⟨k, x⟩ := e
    exact .inr (.inr (.inr ⟨z, k, x, c', n', h, ha, hn, rfl, rfl⟩))
theorem Ent.of_nil (h : Ent V q [] U r c n) : U = V ∧ r = q ∧ c = 0 ∧ n = 0 := by
  cases h with
  | none h => exact ⟨rfl, rfl, rfl, rfl⟩
  | bad h hq => exact ⟨rfl, rfl, rfl, rfl⟩
  | step h ha hn => have := (h.fine _ _ _ rfl).2; simp at this; omega
abbrev lgCells (d ev pv q c n : Nat) : List Value := [.pointer (some ⟨d, 0, none⟩), .int .i64 ev, .pointer (some ⟨pv, 0, none⟩), .int .i64 q, .int .i64 c, .int .i64 n]
abbrev lgP (p d ev pv q c n : Nat) : HP := cells p (lgCells d ev pv q c n) 74
def LogC (p d ev : Nat) (V : Vw) (q c n : Nat) : HP := ex fun pv : Nat => stars [lgP p d ev pv q c n, zD8 pv V]
theorem Mem.openL (hs : Mem g w (LogC p d ev V q c n :: L)) : ∃ pv, Mem g w (lgP p d ev pv q c n :: zD8 pv V :: L) := by
  obtain ⟨pv, h⟩ := hs.unex
  exact ⟨pv, h.unstars⟩
theorem Mem.closeL (hs : Mem g w (lgP p d ev pv q c n :: zD8 pv V :: L)) : Mem g w (LogC p d ev V q c n :: L) :=
  Mem.ex (f := fun pv : Nat => Go.Proofs.YtdkgdjnbpjjfmaaGreatDoor.stars [lgP p d ev pv q c n, zD8 pv V]) pv (Mem.stars (M := [lgP p d ev pv q c n, zD8 pv V]) hs)
theorem seq_sl (hs : Mem g w (LogC p d ev V q c n :: L)) : Calls Tryz.prog 20 #[.pointer (some ⟨p, 0, none⟩)] w (Ret fun v w' => v = .int .i64 q ∧ Mem g w' (LogC p d ev V q c n :: L)) := by
  obtain ⟨pv, hs⟩ := hs.openL
  refine zAm Tryz.func20 rfl rfl ?_
  skip
  refine zA5 (zA1 ?_)
  refine zA rfl (zA2 (v := .int .i64 _) rfl) ?_
  refine zA4 (zA5 (zA1 ?_))
  refine zA rfl (zA0 (v := .pointer (some _)) rfl) ?_
  refine zA rfl (zA8 rfl) ?_
  refine zA rfl (zA3 (o' := 3) zD0 rfl sz2 rfl rfl rfl) ?_
  refine zA rfl (zA7 uz2 rfl rfl (hs.cellAt 0 rfl rfl)) ?_
  refine zA rfl (zA2 (v := .int .i64 _) rfl) ?_
  refine zA4 ?_
  refine zAf ?_
  refine zBg (v := .int .i64 _) rfl rfl ?_
  exact ⟨_, rfl, rfl, hs.closeL⟩
theorem lview_sl (hs : Mem g w (LogC p d ev V q c n :: L)) : Calls Tryz.prog 21 #[.pointer (some ⟨p, 0, none⟩)] w (Ret fun v w' => ∃ u, v = .pointer (some ⟨u, 0, none⟩) ∧ Mem g w' (zD8 u V :: LogC p d ev V q c n :: L)) := by
  obtain ⟨pv, hs⟩ := hs.openL
  refine zAm Tryz.func21 rfl rfl ?_
  skip
  refine zA5 (zA1 ?_)
  refine zA rfl (zA2 (v := .pointer none) rfl) ?_
  refine zA4 (zA5 (zA1 ?_))
  refine zA rfl (zA0 (v := .pointer (some _)) rfl) ?_
  refine zA rfl (zA8 rfl) ?_
  refine zA rfl (zA3 (o' := 2) zD0 rfl sz33 rfl rfl rfl) ?_
  refine zA rfl (zA7 uz33 rfl rfl (hs.cellAt 0 rfl rfl)) ?_
  refine zAa rfl en16 (cloneq_sl (hs.arr [1, 0] 2 (by decide))) ?_
  clear hs
  rintro _ w ⟨u, rfl, hs⟩
  refine zA rfl (zA2 (v := .pointer (some _)) rfl) ?_
  refine zA4 ?_
  refine zAf ?_
  refine zBg (v := .pointer (some _)) rfl rfl ?_
  exact ⟨_, rfl, u, rfl, (Mem.closeL (hs.arr [2, 1, 0] 3 (by decide))).arr [1, 0] 2 (by decide)⟩
theorem snapNo_sl (hM : ErrM ad g) (hs : Mem g w (lgP p d ev pv 0 0 0 :: zD8 pv [] :: zBv d dk :: L)) (hp : dk.pread snN = (107, [])) : Calls Tryz.prog 33 #[.pointer (some ⟨p, 0, none⟩)] w (Ret fun v w' => v = .nilIface ∧ Mem g w' (lgP p d ev pv 0 0 0 :: zD8 pv [] :: zBv d dk :: L)) := by
  have hP := hM.toP
  refine zAm Tryz.func33 rfl rfl ?_
  skip
  refine zA5 (zA1 ?_)
  refine zA rfl (zA2 (v := .nilIface) rfl) ?_
  refine zA4 (zA5 (zA1 ?_))
  refine zA rfl (zA0 (v := .pointer (some _)) rfl) ?_
  refine zA rfl (zA8 rfl) ?_
  refine zA rfl (zA3 (o' := 0) zD0 rfl sz25 rfl rfl rfl) ?_
  refine zA rfl (zA7 uz25 rfl rfl (hs.cellAt 0 rfl rfl)) ?_
  refine zAa rfl en67 (pread_sl hP (hs.arr [2, 0, 1] 3 (by decide)) snN hp) ?_
  clear hs
  rintro _ w ⟨a11, c11, rfl, hs⟩
  refine zA rfl (zA0 (v := .tuple _) rfl) ?_
  refine zA rfl (zAc (v := .slice _ _ _) rfl rfl) ?_
  refine zA rfl (zAc (v := zAo ad _) rfl rfl) ?_
  refine zA rfl (zA2 (v := .slice _ _ _) rfl) ?_
  refine zA rfl (zA2 (v := zAo ad _) rfl) ?_
  refine zA4 ?_
  refine zA5 ?_
  refine zA5 (zA1 ?_)
  refine zA rfl (zA0 (v := zAo ad _) rfl) ?_
  refine zA rfl (zA7 zCv rfl rfl (hP.cellW hs 107 (by decide) rfl)) ?_
  refine zA rfl (zEe (hP.atW hs) (by decide) (by decide) rfl rfl) ?_
  refine zA4 ?_
  refine zB9 rfl (rfl) ?_
  refine zA5 (zA1 ?_)
  refine zA rfl (zA2 (v := .nilIface) rfl) ?_
  refine zA4 ?_
  refine zAf ?_
  refine zBg (v := .nilIface) rfl rfl ?_
  exact ⟨_, rfl, rfl, hs.arr [2, 3, 1] 4 (by decide)⟩
theorem snap_sl (hM : ErrM ad g) (hs : Mem g w (lgP p d ev pv 0 0 0 :: zD8 pv U :: zBv d dk :: L)) (hp : dk.pread snN = (0, snapB q V)) (ho : V.ok) (hu : V.sums) (hl : V.length ≤ 100) (hq : q < 4611686018427387904) : Calls Tryz.prog 33 #[.pointer (some ⟨p, 0, none⟩)] w (Ret fun v w' => v = .nilIface ∧ ∃ pv', Mem g w' (lgP p d ev pv' q 0 0 :: zD8 pv' V :: zBv d dk :: L)) := by
  have hP := hM.toP
  have hvb : (vwB V).length = (vwBody V).length + 4 := zBs _
  have hvl := vwBody_len ho hl
  have hql := zCc q
  have hsl : (snapB q V).length = (zAz q).length + (vwB V).length := List.length_append
  have htk : ((snapB q V).take (snapB q V).length).drop (0 + (zAz q).length) = vwB V := by rw [List.take_length, Nat.zero_add, snapB, List.drop_left]
  refine zAm Tryz.func33 rfl rfl ?_
  skip
  refine zA5 (zA1 ?_)
  refine zA rfl (zA2 (v := .nilIface) rfl) ?_
  refine zA4 (zA5 (zA1 ?_))
  refine zA rfl (zA0 (v := .pointer (some _)) rfl) ?_
  refine zA rfl (zA8 rfl) ?_
  refine zA rfl (zA3 (o' := 0) zD0 rfl sz25 rfl rfl rfl) ?_
  refine zA rfl (zA7 uz25 rfl rfl (hs.cellAt 0 rfl rfl)) ?_
  refine zAa rfl en67 (pread_sl hP (hs.arr [2, 0, 1] 3 (by decide)) snN hp) ?_
  clear hs
  rintro _ w ⟨a11, c11, rfl, hs⟩
  refine zA rfl (zA0 (v := .tuple _) rfl) ?_
  refine zA rfl (zAc (v := .slice _ _ _) rfl rfl) ?_
  refine zA rfl (zAc (v := zAo ad _) rfl rfl) ?_
  refine zA rfl (zA2 (v := .slice _ _ _) rfl) ?_
  refine zA rfl (zA2 (v := zAo ad _) rfl) ?_
  refine zA4 ?_
  refine zA5 ?_
  refine zA5 (zA1 ?_)
  refine zA rfl (zA0 (v := zAo ad _) rfl) ?_
  refine zA rfl (zA7 zCv rfl rfl (hP.cellW hs 107 (by decide) rfl)) ?_
  refine zA rfl (zEe (hP.atW hs) (by decide) (by decide) rfl rfl) ?_
  refine zA4 ?_
  refine zB rfl (rfl) ?_
  refine zAd ?_
  refine zA5 ?_
  refine zA5 (zA1 ?_)
  refine zA rfl (zA0 (v := zAo ad _) rfl) ?_
  refine zA rfl (zAy (ad := ad) rfl) ?_
  refine zA4 ?_
  refine zB rfl (rfl) ?_
  refine zAd ?_
  refine zA5 (zA1 ?_)
  refine zA rfl (zA0 (v := .slice _ _ _) rfl) ?_
  refine zAa rfl en68 (newr_sl ad hs (hs.rdOwn 0 rfl) rfl (by omega)) ?_
  clear hs
  rintro _ w ⟨rb, rfl, hs⟩
  refine zA rfl (zA2 (v := .pointer (some _)) rfl) ?_
  refine zA4 (zA5 (zA1 ?_))
  refine zA rfl (zA0 (v := .pointer (some _)) rfl) ?_
  refine zA rfl (zA0 (v := .pointer (some _)) rfl) ?_
  refine zAa rfl en69 (zBl (rest := vwB V) (n := q) (most := 9223372036854775807) hM.toW hs (by omega) (by rfl) (by omega) (by omega)) ?_
  clear hs
  rintro _ w ⟨rfl, hs⟩
  refine zA rfl (zAn zBw uz2 rfl (c := ((q : Nat) : Int)) (zDs.wrap ⟨by omega, by omega⟩)) ?_
  refine zA rfl (zA8 rfl) ?_
  refine zA rfl (zA3 (o' := 3) zD0 rfl sz2 rfl rfl rfl) ?_
  refine zAv (v := .int .i64 _) hs 3 rfl sz2 rfl rfl rfl rfl ?_
  clear hs
  intro w hs
  try simp only [List.set_cons_succ, List.set_cons_zero] at hs
  refine zA4 ?_
  refine zA5 ?_
  refine zA5 (zA1 ?_)
  refine zA rfl (zA0 (v := .pointer (some _)) rfl) ?_
  refine zAa rfl en70 (errOK_sl hs) ?_
  clear hs
  rintro _ w ⟨rfl, hs⟩
  refine zA rfl (zBj rfl) ?_
  refine zA4 ?_
  refine zB rfl (rfl) ?_
  refine zAd ?_
  refine zA5 (zA1 ?_)
  refine zA rfl (zA0 (v := .pointer (some _)) rfl) ?_
  refine zA rfl (zA0 (v := .slice _ _ _) rfl) ?_
  refine zA rfl (zA0 (v := .pointer (some _)) rfl) ?_
  refine zAa rfl en72 (at_sl hs) ?_
  clear hs
  rintro _ w ⟨rfl, hs⟩
  refine zA rfl (zCo zC2 sz5 rfl rfl (lo := 0 + (zAz q).length) rfl (by omega)) ?_
  refine zAa rfl en71 (readq_sl hP hM.toW hM.toV hs ho hu hl (by rw [← htk]; exact (hs.rdOwn 1 rfl).subB (by omega) (Nat.le_refl _)) (by omega) (by have := (hs.ownForm 1 rfl).2.1; omega)) ?_
  clear hs
  rintro _ w ⟨pw, rfl, hs⟩
  refine zA rfl (zA0 (v := .tuple _) rfl) ?_
  refine zA rfl (zAc (v := .pointer (some _)) rfl rfl) ?_
  refine zA rfl (zAc (v := .nilIface) rfl rfl) ?_
  refine zA rfl (zA8 rfl) ?_
  refine zA rfl (zA3 (o' := 2) zD0 rfl sz33 rfl rfl rfl) ?_
  refine zAv (v := .pointer (some _)) hs 4 rfl sz33 rfl rfl rfl rfl ?_
  clear hs
  intro w hs
  try simp only [List.set_cons_succ, List.set_cons_zero] at hs
  refine zA rfl (zA2 (v := .nilIface) rfl) ?_
  refine zA4 (zA5 (zA1 ?_))
  refine zA rfl (zA0 (v := .nilIface) rfl) ?_
  refine zA rfl (zA2 (v := .nilIface) rfl) ?_
  refine zA4 ?_
  refine zAf ?_
  refine zBg (v := .nilIface) rfl rfl ?_
  exact ⟨_, rfl, rfl, pw, hs.arr [4, 0, 3] 6 (by decide)⟩
theorem zEr : mtN ∈ LgN := List.mem_cons_self ..
theorem mem_sn : snN ∈ LgN := List.mem_cons_of_mem _ (List.mem_cons_self ..)
abbrev LgI (f : ByteArray → Option (List UInt8)) (d : Dk) : Prop := RawI LgN 200000 f d
set_option maxHeartbeats 2000000 in
set_option maxRecDepth 10000 in
theorem entries_sl (hM : ErrM ad g) {V0 : Vw} {q0 : Nat} {mb : List UInt8} (hI : LgI f dk) (ha : dk.armed = 0) (hcl : dk.calls < 900000) (hf : f mtN = some mb) (hml : mb.length ≤ 1000000) (hent : Ent V0 q0 mb V q c n) (hq : q < 4611686018427387904) (hs : Mem g w (lgP p d ev pv q0 0 0 :: zD8 pv V0 :: zBv d dk :: L)) :
    Calls Tryz.prog 36 #[.pointer (some ⟨p, 0, none⟩), .int .i64 (mb.length : Nat)] w (Ret fun v w' => v = .nilIface ∧ ∃ dk2, dk2.armed = 0 ∧ dk2.room = dk.room ∧ dk2.calls ≤ dk.calls + 2 ∧ LgI (zDt f mtN (mb.take n)) dk2 ∧ Mem g w' (lgP p d ev pv q c n :: zD8 pv V :: zBv d dk2 :: L)) := by
  have hK := hM.toK
  have hV := hM.toV
  have hle := hent.le
  refine zAm Tryz.func36 rfl rfl ?_
  skip
  refine zA5 (zA1 ?_)
  refine zA rfl (zA2 (v := .nilIface) rfl) ?_
  refine zA4 (zA5 (zA1 ?_))
  refine zA rfl (zA0 (v := .pointer (some _)) rfl) ?_
  refine zA rfl (zA8 rfl) ?_
  refine zA rfl (zA3 (o' := 0) zD0 rfl sz25 rfl rfl rfl) ?_
  refine zA rfl (zA7 uz25 rfl rfl (hs.cellAt 0 rfl rfl)) ?_
  refine zA rfl (zA0 (v := .int .i64 _) rfl) ?_
  refine zAa rfl en76 (read_sl hK (hs.arr [2, 0, 1] 3 (by decide)) mtN (off := 0) (m := (mb.length : Int)) (inI (by decide) (by decide)) (inI (by omega) (by omega)) (hI.readR zEr hf)) ?_
  clear hs
  rintro _ w ⟨a18, c18, rfl, hs⟩
  rw [zB2]
  refine zA rfl (zA0 (v := .tuple _) rfl) ?_
  refine zA rfl (zAc (v := .slice _ _ _) rfl rfl) ?_
  refine zA rfl (zAc (v := .nilIface) rfl rfl) ?_
  refine zA rfl (zA2 (v := .slice _ _ _) rfl) ?_
  refine zA rfl (zA2 (v := .nilIface) rfl) ?_
  refine zA4 ?_
  refine zA5 ?_
  refine zA5 (zA1 ?_)
  refine zA rfl (zA0 (v := .nilIface) rfl) ?_
  refine zA rfl (zBj rfl) ?_
  refine zA4 ?_
  refine zB rfl (rfl) ?_
  refine zAd ?_
  refine zA5 ?_
  refine zAt ?_
  refine zBr (X := Vw × Nat × Nat × Nat) [7, 8, 9, 10, 24, 25, 26, 27, 28, 29, 30, 31, 32, 33, 34, 35, 36, 37, 38, 39, 40, 41, 42, 43, 44, 45, 46, 47, 48, 49, 50, 51, 52, 53, 54, 55, 56, 57, 58, 59, 60, 61, 62, 63, 64, 65, 66, 67, 68, 69, 70, 71, 72, 73, 74, 75, 76, 77, 78, 79, 80, 81, 82, 83, 84, 85, 86, 87, 88, 89] (fun x => []) (fun x w => (x.2.2.2 ≤ mb.length ∧ ∃ c' n', Ent x.1 x.2.1 (mb.drop x.2.2.2) V q c' n' ∧ x.2.2.1 + c' = c ∧ x.2.2.2 + n' = n) ∧ Mem g w (lgP p d ev pv x.2.1 x.2.2.1 x.2.2.2 :: own (.slice a18 mb.length c18) (zAl mb) :: zBv d dk :: zD8 pv x.1 :: L)) (fun x => mb.length - x.2.2.2) ((V0, q0, 0, 0)) ?_ ?_ ?_
  · exact trivial
  · exact ⟨⟨Nat.zero_le _, c, n, hent, Nat.zero_add _, Nat.zero_add _⟩, hs.arr [2, 0, 1, 3] 4 (by decide)⟩
  clear hs
  rintro x ξ w hI
  obtain ⟨W, qc, cc, pos⟩ := x
  obtain ⟨⟨hpl, c', n', hE, hce, hne⟩, hs⟩ := hI
  simp only at hpl hE hce hne hs
  have hEl := hE.le
  refine zA5 ?_
  refine zA5 (zA1 ?_)
  refine zA rfl (zA0 (v := .pointer (some _)) rfl) ?_
  refine zA rfl (zA8 rfl) ?_
  refine zA rfl (zA3 (o' := 5) zD0 rfl sz3 rfl rfl rfl) ?_
  refine zA rfl (zA7 uz3 rfl rfl (hs.cellAt 0 rfl rfl)) ?_
  refine zA rfl (zA0 (v := .int .i64 _) rfl) ?_
  refine zA rfl (zB3 rfl rfl) ?_
  refine zA4 ?_
  refine zB7 rfl ?_ ?_
  ·
   intro h29
   have g29 := of_decide_eq_true h29
   have hbn : mb.drop pos ≠ [] := fun e => by have := List.drop_eq_nil_iff.1 e; omega
   have hcap := (hs.ownForm 1 rfl).2.1
   refine zAd ?_
   refine zAt ?_
   refine zA5 ?_
   obtain ⟨hr, rfl, rfl, rfl, rfl⟩ | ⟨s, z, k, x, hr, hbs, rfl, rfl, rfl, rfl⟩ | ⟨z, k, x, hr, hba, rfl, rfl, rfl, rfl⟩ | ⟨z, k, x, c2, n2, hr, hap, hE2, rfl, rfl⟩ := hE.inv hbn
   ·
    refine zA1 ?_
    refine zA rfl (zA0 (v := .slice _ _ _) rfl) ?_
    refine zA rfl (zA0 (v := .pointer (some _)) rfl) ?_
    refine zA rfl (zA8 rfl) ?_
    refine zA rfl (zA3 (o' := 5) zD0 rfl sz3 rfl rfl rfl) ?_
    refine zA rfl (zA7 uz3 rfl rfl (hs.cellAt 0 rfl rfl)) ?_
    refine zA rfl (zCo zC2 sz5 rfl rfl (lo := pos) rfl (by omega)) ?_
    refine zAa rfl en77 (hr.calls hM.toP hM.toW hV hs (by have h9 := (hs.rdOwn 1 rfl).subB (lo := pos) (hi := mb.length) (by omega) (Nat.le_refl _); rw [List.take_length] at h9; exact h9) (by simp) (by omega)) ?_
    clear hs
    rintro _ w ⟨fe, eb, hfp, hf0, rfl, hs⟩
    refine zA rfl (zA0 (v := .tuple _) rfl) ?_
    refine zA rfl (zAc (v := .int .i64 _) rfl rfl) ?_
    refine zA rfl (zAc (v := .agg _) rfl rfl) ?_
    refine zA rfl (zAc (v := .int .i64 _) rfl rfl) ?_
    refine zA rfl (zAc (v := flV ad _ _) rfl rfl) ?_
    refine zBh hs rfl ze41 ?_
    clear hs
    intro b8 w hs
    try simp only [List.set_cons_succ, List.set_cons_zero] at hs
    refine zA rfl (zA2 (v := .int .i64 _) rfl) ?_
    refine zAq hs 0 rfl rfl rfl sz41 rfl rfl ?_
    clear hs
    intro w hs
    try simp only [List.set_cons_succ, List.set_cons_zero] at hs
    refine zA rfl (zA2 (v := .int .i64 _) rfl) ?_
    refine zA rfl (zA2 (v := flV ad _ _) rfl) ?_
    refine zA4 ?_
    refine zA5 ?_
    refine zA5 ?_
    refine zAw zBt (hs.drop 5) ?_
    intro w tr hK
    replace hs := tr _ hs
    clear tr
    refine zA6 0 rfl rfl (fun w hs => zA0 (v := flV ad _ _) rfl) hK ?_
    refine zA6 1 rfl rfl (fun w hs => run_neF hfp rfl) hK ?_
    refine zA6 2 rfl rfl (fun w hs => zA0 (v := .bool _) rfl) hK ?_
    refine zAe 3 rfl rfl rfl rfl ((by simp [hf0])) hK ?_
    refine zAe 4 rfl rfl rfl rfl ((by simp [hf0])) hK ?_
    refine zAe 5 rfl rfl rfl rfl ((by simp [hf0])) hK ?_
    refine zAe 6 rfl rfl rfl rfl ((by simp [hf0])) hK ?_
    refine zAe 7 rfl rfl rfl rfl ((by simp [hf0])) hK ?_
    refine zA6 8 rfl rfl (fun w hs => zAi (v := .bool _) rfl ((by simp [hf0])) rfl) hK ?_
    refine zA6 9 rfl rfl (fun w hs => zA0 (v := .bool _) rfl) hK ?_
    refine zAe 10 rfl rfl rfl rfl rfl hK ?_
    refine zAe 11 rfl rfl rfl rfl rfl hK ?_
    refine zAe 12 rfl rfl rfl rfl rfl hK ?_
    refine zAe 13 rfl rfl rfl rfl rfl hK ?_
    refine zAe 14 rfl rfl rfl rfl rfl hK ?_
    refine zAe 15 rfl rfl rfl rfl rfl hK ?_
    refine zAe 16 rfl rfl rfl rfl rfl hK ?_
    refine zA6 17 rfl rfl (fun w hs => zAi (v := .bool _) rfl rfl rfl) hK ?_
    refine zA6 18 rfl rfl (fun w hs => zA0 (v := .bool _) rfl) hK ?_
    refine zAe 19 rfl rfl rfl rfl rfl hK ?_
    refine zAe 20 rfl rfl rfl rfl rfl hK ?_
    refine zAe 21 rfl rfl rfl rfl rfl hK ?_
    refine zAe 22 rfl rfl rfl rfl rfl hK ?_
    refine zAe 23 rfl rfl rfl rfl rfl hK ?_
    refine zAe 24 rfl rfl rfl rfl rfl hK ?_
    refine zAe 25 rfl rfl rfl rfl rfl hK ?_
    refine zA6 26 rfl rfl (fun w hs => zAi (v := .bool _) rfl rfl rfl) hK ?_
    refine zAs (by kernel_rfl) ?_
    clear hK
    refine zB9 rfl rfl ?_
    refine zBk rfl ?_
    refine zA5 ?_
    refine zA5 ?_
    have e5 : c = cc := by omega
    subst e5
    have e6 : n = pos := by omega
    subst e6
    have h9 : Mem g w (lgP p d ev pv q c n :: own (.slice a18 mb.length c18) (zAl mb) :: zBv d dk :: zD8 pv V :: L) := hs.tail.tail
    replace hs := h9
    clear h9
    refine zA1 ?_
    refine zA rfl (zA0 (v := .pointer (some _)) rfl) ?_
    refine zA rfl (zA8 rfl) ?_
    refine zA rfl (zA3 (o' := 5) zD0 rfl sz3 rfl rfl rfl) ?_
    refine zA rfl (zA7 uz3 rfl rfl (hs.cellAt 0 rfl rfl)) ?_
    refine zA rfl (zA0 (v := .int .i64 _) rfl) ?_
    refine zA rfl (zBq rfl rfl) ?_
    refine zA4 ?_
    refine zB7 rfl ?_ ?_
    ·
     intro h95
     have g95 := of_decide_eq_true h95
     refine zA5 (zA1 ?_)
     refine zA rfl (zA2 (v := .nilIface) rfl) ?_
     refine zA4 ?_
     refine zAf ?_
     refine zBg (v := .nilIface) rfl rfl ?_
     exact ⟨_, rfl, rfl, dk, ha, rfl, by omega, by rw [List.take_of_length_le (by omega), updF_self hf]; exact hI, hs.arr [0, 3, 2] 4 (by decide)⟩
    ·
     intro h95
     have g95 := of_decide_eq_false h95
     obtain ⟨kc, dc, hcut, hcr, hcc, hccase⟩ := hI.cut zEr hf (m := n) (by omega)
     obtain ⟨rfl, hup2, har2, hI4⟩ := hccase.resolve_right (fun h => h.2.2.1 ha)
     refine zAd ?_
     refine zA5 ?_
     refine zA5 ?_
     refine zAw zBt (hs.drop 2) ?_
     intro w tr hK
     replace hs := tr _ hs
     clear tr
     refine zA6 0 rfl rfl (fun w hs => zA0 (v := .pointer (some _)) rfl) hK ?_
     refine zA6 1 rfl rfl (fun w hs => zA8 rfl) hK ?_
     refine zA6 2 rfl rfl (fun w hs => zA3 (o' := 0) zD0 rfl sz25 rfl rfl rfl) hK ?_
     refine zA6 3 rfl rfl (fun w hs => zA7 uz25 rfl rfl (hs.cellAt 0 rfl rfl)) hK ?_
     refine zA6 4 rfl rfl (fun w hs => zA0 (v := .pointer (some _)) rfl) hK ?_
     refine zA6 5 rfl rfl (fun w hs => zA8 rfl) hK ?_
     refine zA6 6 rfl rfl (fun w hs => zA3 (o' := 5) zD0 rfl sz3 rfl rfl rfl) hK ?_
     refine zA6 7 rfl rfl (fun w hs => zA7 uz3 rfl rfl (hs.cellAt 0 rfl rfl)) hK ?_
     refine zAb [8] ?_
     refine ⟨⟨_, rfl, ?_⟩, trivial⟩
     refine zAa rfl en18 (cut_sl hM.toK (hs.arr [2, 0, 1, 3] 4 (by decide)) (by omega) mtN (m := ((n : Nat) : Int)) (inI (by omega) (by omega)) hcut) ?_
     clear hs
     rintro _ w ⟨rfl, hs⟩
     clear hK
     have hK := hs.tail
     refine zA4 ⟨hK, ?_⟩
     refine zA6 9 rfl rfl (fun w hs => zA2 (v := zAo ad _) rfl) hK ?_
     refine zAs (by kernel_rfl) ?_
     clear hK
     refine zA5 (zA1 ?_)
     refine zA rfl (zA0 (v := zAo ad _) rfl) ?_
     refine zA rfl (zAy (ad := ad) rfl) ?_
     refine zA4 ?_
     refine zB rfl (rfl) ?_
     refine zAd ?_
     refine zA5 ?_
     have hI5 := hI4 (hs.openD).1
     obtain ⟨ds, hsy, hsr, hsa, hsc, hI6⟩ := hI5.sync (har2 ha) zEr (zCz _ _ _)
     refine zA1 ?_
     refine zA rfl (zA0 (v := .pointer (some _)) rfl) ?_
     refine zA rfl (zA8 rfl) ?_
     refine zA rfl (zA3 (o' := 0) zD0 rfl sz25 rfl rfl rfl) ?_
     refine zA rfl (zA7 uz25 rfl rfl (hs.cellAt 1 rfl rfl)) ?_
     refine zAa rfl en39 (sync_sl hM.toK hs (by omega) mtN hsy) ?_
     clear hs
     rintro _ w ⟨rfl, hs⟩
     refine zA rfl (zA2 (v := zAo ad _) rfl) ?_
     refine zA4 ?_
     refine zAf ?_
     refine zBg (v := zAo ad _) rfl rfl ?_
     exact ⟨_, rfl, zB2 ad, ds, hsa, hsr.trans hcr, by omega, hI6 (hs.openD).1, hs.arr [1, 3, 0] 4 (by decide)⟩
   ·
    refine zA1 ?_
    refine zA rfl (zA0 (v := .slice _ _ _) rfl) ?_
    refine zA rfl (zA0 (v := .pointer (some _)) rfl) ?_
    refine zA rfl (zA8 rfl) ?_
    refine zA rfl (zA3 (o' := 5) zD0 rfl sz3 rfl rfl rfl) ?_
    refine zA rfl (zA7 uz3 rfl rfl (hs.cellAt 0 rfl rfl)) ?_
    refine zA rfl (zCo zC2 sz5 rfl rfl (lo := pos) rfl (by omega)) ?_
    refine zAa rfl en77 (hr.calls hM.toP hM.toW hV hs (by have h9 := (hs.rdOwn 1 rfl).subB (lo := pos) (hi := mb.length) (by omega) (Nat.le_refl _); rw [List.take_length] at h9; exact h9) (by simp) (by omega)) ?_
    clear hs
    rintro _ w ⟨s1, s2, rfl, hs⟩
    simp only [mfP, List.cons_append, List.nil_append] at hs
    refine zA rfl (zA0 (v := .tuple _) rfl) ?_
    refine zA rfl (zAc (v := .int .i64 _) rfl rfl) ?_
    refine zA rfl (zAc (v := .agg _) rfl rfl) ?_
    refine zA rfl (zAc (v := .int .i64 _) rfl rfl) ?_
    refine zA rfl (zAc (v := .nilIface) rfl rfl) ?_
    refine zBh hs rfl ze41 ?_
    clear hs
    intro b8 w hs
    try simp only [List.set_cons_succ, List.set_cons_zero] at hs
    refine zA rfl (zA2 (v := .int .i64 _) rfl) ?_
    refine zAq hs 0 rfl rfl rfl sz41 rfl rfl ?_
    clear hs
    intro w hs
    try simp only [List.set_cons_succ, List.set_cons_zero] at hs
    refine zA rfl (zA2 (v := .int .i64 _) rfl) ?_
    refine zA rfl (zA2 (v := .nilIface) rfl) ?_
    refine zA4 ?_
    refine zA5 ?_
    refine zA5 ?_
    refine zAw zBt (hs.drop 6) ?_
    intro w tr hK
    replace hs := tr _ hs
    clear tr
    refine zA6 0 rfl rfl (fun w hs => zA0 (v := .nilIface) rfl) hK ?_
    refine zA6 1 rfl rfl (fun w hs => zBj rfl) hK ?_
    refine zA6 2 rfl rfl (fun w hs => zA0 (v := .bool _) rfl) hK ?_
    refine zAh 3 rfl rfl rfl rfl (rfl) (fun w hs => zA0 (v := .pointer (some _)) rfl) hK ?_
    refine zAh 4 rfl rfl rfl rfl (rfl) (fun w hs => zA8 rfl) hK ?_
    refine zAh 5 rfl rfl rfl rfl (rfl) (fun w hs => zA3 (o' := 3) zD0 rfl sz2 rfl rfl rfl) hK ?_
    refine zAh 6 rfl rfl rfl rfl (rfl) (fun w hs => zA7 uz2 rfl rfl (hs.cellAt 3 rfl rfl)) hK ?_
    refine zAh 7 rfl rfl rfl rfl (rfl) (fun w hs => zBq rfl rfl) hK ?_
    refine zA6 8 rfl rfl (fun w hs => zAj (v := .bool _) rfl (rfl) rfl) hK ?_
    refine zA6 9 rfl rfl (fun w hs => zA0 (v := .bool _) rfl) hK ?_
    refine zAh 10 rfl rfl rfl rfl (decide_eq_false (by omega)) (fun w hs => zA0 (v := .int .i64 _) rfl) hK ?_
    refine zAh 11 rfl rfl rfl rfl (decide_eq_false (by omega)) (fun w hs => zA0 (v := .pointer (some _)) rfl) hK ?_
    refine zAh 12 rfl rfl rfl rfl (decide_eq_false (by omega)) (fun w hs => zA8 rfl) hK ?_
    refine zAh 13 rfl rfl rfl rfl (decide_eq_false (by omega)) (fun w hs => zA3 (o' := 3) zD0 rfl sz2 rfl rfl rfl) hK ?_
    refine zAh 14 rfl rfl rfl rfl (decide_eq_false (by omega)) (fun w hs => zA7 uz2 rfl rfl (hs.cellAt 3 rfl rfl)) hK ?_
    refine zAh 15 rfl rfl rfl rfl (decide_eq_false (by omega)) (fun w hs => zAp rfl rfl (c := ((q + 1 : Nat) : Int)) (by omega) (inI (by omega) (by omega))) hK ?_
    refine zAh 16 rfl rfl rfl rfl (decide_eq_false (by omega)) (fun w hs => zE6 rfl rfl) hK ?_
    refine zA6 17 rfl rfl (fun w hs => zAj (v := .bool _) rfl (decide_eq_false (by omega)) rfl) hK ?_
    refine zA6 18 rfl rfl (fun w hs => zA0 (v := .bool _) rfl) hK ?_
    refine zAe 19 rfl rfl rfl rfl ((by first | (rw [decide_eq_false (show ¬ ((s : Nat) : Int) = ((q + 1 : Nat) : Int) by omega)]; rfl) | rw [decide_eq_false (show ¬ ((s : Nat) : Int) = ((q + 1 : Nat) : Int) by omega)])) hK ?_
    refine zAe 20 rfl rfl rfl rfl ((by first | (rw [decide_eq_false (show ¬ ((s : Nat) : Int) = ((q + 1 : Nat) : Int) by omega)]; rfl) | rw [decide_eq_false (show ¬ ((s : Nat) : Int) = ((q + 1 : Nat) : Int) by omega)])) hK ?_
    refine zAe 21 rfl rfl rfl rfl ((by first | (rw [decide_eq_false (show ¬ ((s : Nat) : Int) = ((q + 1 : Nat) : Int) by omega)]; rfl) | rw [decide_eq_false (show ¬ ((s : Nat) : Int) = ((q + 1 : Nat) : Int) by omega)])) hK ?_
    refine zAe 22 rfl rfl rfl rfl ((by first | (rw [decide_eq_false (show ¬ ((s : Nat) : Int) = ((q + 1 : Nat) : Int) by omega)]; rfl) | rw [decide_eq_false (show ¬ ((s : Nat) : Int) = ((q + 1 : Nat) : Int) by omega)])) hK ?_
    refine zAe 23 rfl rfl rfl rfl ((by first | (rw [decide_eq_false (show ¬ ((s : Nat) : Int) = ((q + 1 : Nat) : Int) by omega)]; rfl) | rw [decide_eq_false (show ¬ ((s : Nat) : Int) = ((q + 1 : Nat) : Int) by omega)])) hK ?_
    refine zAe 24 rfl rfl rfl rfl ((by first | (rw [decide_eq_false (show ¬ ((s : Nat) : Int) = ((q + 1 : Nat) : Int) by omega)]; rfl) | rw [decide_eq_false (show ¬ ((s : Nat) : Int) = ((q + 1 : Nat) : Int) by omega)])) hK ?_
    refine zAe 25 rfl rfl rfl rfl ((by first | (rw [decide_eq_false (show ¬ ((s : Nat) : Int) = ((q + 1 : Nat) : Int) by omega)]; rfl) | rw [decide_eq_false (show ¬ ((s : Nat) : Int) = ((q + 1 : Nat) : Int) by omega)])) hK ?_
    first | refine zA6 26 rfl rfl (fun w hs => zAi (v := .bool _) rfl ((by first | (rw [decide_eq_false (show ¬ ((s : Nat) : Int) = ((q + 1 : Nat) : Int) by omega)]; rfl) | rw [decide_eq_false (show ¬ ((s : Nat) : Int) = ((q + 1 : Nat) : Int) by omega)])) rfl) hK ?_
    refine zAs (by kernel_rfl) ?_
    clear hK
    refine zB9 rfl rfl ?_
    refine zBk rfl ?_
    refine zA5 ?_
    refine zA5 ?_
    have e5 : c = cc := by omega
    subst e5
    have e6 : n = pos := by omega
    subst e6
    have h9 : Mem g w (lgP p d ev pv q c n :: own (.slice a18 mb.length c18) (zAl mb) :: zBv d dk :: zD8 pv V :: L) := hs.tail.tail.tail
    replace hs := h9
    clear h9
    refine zA1 ?_
    refine zA rfl (zA0 (v := .pointer (some _)) rfl) ?_
    refine zA rfl (zA8 rfl) ?_
    refine zA rfl (zA3 (o' := 5) zD0 rfl sz3 rfl rfl rfl) ?_
    refine zA rfl (zA7 uz3 rfl rfl (hs.cellAt 0 rfl rfl)) ?_
    refine zA rfl (zA0 (v := .int .i64 _) rfl) ?_
    refine zA rfl (zBq rfl rfl) ?_
    refine zA4 ?_
    refine zB7 rfl ?_ ?_
    ·
     intro h95
     have g95 := of_decide_eq_true h95
     refine zA5 (zA1 ?_)
     refine zA rfl (zA2 (v := .nilIface) rfl) ?_
     refine zA4 ?_
     refine zAf ?_
     refine zBg (v := .nilIface) rfl rfl ?_
     exact ⟨_, rfl, rfl, dk, ha, rfl, by omega, by rw [List.take_of_length_le (by omega), updF_self hf]; exact hI, hs.arr [0, 3, 2] 4 (by decide)⟩
    ·
     intro h95
     have g95 := of_decide_eq_false h95
     obtain ⟨kc, dc, hcut, hcr, hcc, hccase⟩ := hI.cut zEr hf (m := n) (by omega)
     obtain ⟨rfl, hup2, har2, hI4⟩ := hccase.resolve_right (fun h => h.2.2.1 ha)
     refine zAd ?_
     refine zA5 ?_
     refine zA5 ?_
     refine zAw zBt (hs.drop 2) ?_
     intro w tr hK
     replace hs := tr _ hs
     clear tr
     refine zA6 0 rfl rfl (fun w hs => zA0 (v := .pointer (some _)) rfl) hK ?_
     refine zA6 1 rfl rfl (fun w hs => zA8 rfl) hK ?_
     refine zA6 2 rfl rfl (fun w hs => zA3 (o' := 0) zD0 rfl sz25 rfl rfl rfl) hK ?_
     refine zA6 3 rfl rfl (fun w hs => zA7 uz25 rfl rfl (hs.cellAt 0 rfl rfl)) hK ?_
     refine zA6 4 rfl rfl (fun w hs => zA0 (v := .pointer (some _)) rfl) hK ?_
     refine zA6 5 rfl rfl (fun w hs => zA8 rfl) hK ?_
     refine zA6 6 rfl rfl (fun w hs => zA3 (o' := 5) zD0 rfl sz3 rfl rfl rfl) hK ?_
     refine zA6 7 rfl rfl (fun w hs => zA7 uz3 rfl rfl (hs.cellAt 0 rfl rfl)) hK ?_
     refine zAb [8] ?_
     refine ⟨⟨_, rfl, ?_⟩, trivial⟩
     refine zAa rfl en18 (cut_sl hM.toK (hs.arr [2, 0, 1, 3] 4 (by decide)) (by omega) mtN (m := ((n : Nat) : Int)) (inI (by omega) (by omega)) hcut) ?_
     clear hs
     rintro _ w ⟨rfl, hs⟩
     clear hK
     have hK := hs.tail
     refine zA4 ⟨hK, ?_⟩
     refine zA6 9 rfl rfl (fun w hs => zA2 (v := zAo ad _) rfl) hK ?_
     refine zAs (by kernel_rfl) ?_
     clear hK
     refine zA5 (zA1 ?_)
     refine zA rfl (zA0 (v := zAo ad _) rfl) ?_
     refine zA rfl (zAy (ad := ad) rfl) ?_
     refine zA4 ?_
     refine zB rfl (rfl) ?_
     refine zAd ?_
     refine zA5 ?_
     have hI5 := hI4 (hs.openD).1
     obtain ⟨ds, hsy, hsr, hsa, hsc, hI6⟩ := hI5.sync (har2 ha) zEr (zCz _ _ _)
     refine zA1 ?_
     refine zA rfl (zA0 (v := .pointer (some _)) rfl) ?_
     refine zA rfl (zA8 rfl) ?_
     refine zA rfl (zA3 (o' := 0) zD0 rfl sz25 rfl rfl rfl) ?_
     refine zA rfl (zA7 uz25 rfl rfl (hs.cellAt 1 rfl rfl)) ?_
     refine zAa rfl en39 (sync_sl hM.toK hs (by omega) mtN hsy) ?_
     clear hs
     rintro _ w ⟨rfl, hs⟩
     refine zA rfl (zA2 (v := zAo ad _) rfl) ?_
     refine zA4 ?_
     refine zAf ?_
     refine zBg (v := zAo ad _) rfl rfl ?_
     exact ⟨_, rfl, zB2 ad, ds, hsa, hsr.trans hcr, by omega, hI6 (hs.openD).1, hs.arr [1, 3, 0] 4 (by decide)⟩
   ·
    refine zA1 ?_
    refine zA rfl (zA0 (v := .slice _ _ _) rfl) ?_
    refine zA rfl (zA0 (v := .pointer (some _)) rfl) ?_
    refine zA rfl (zA8 rfl) ?_
    refine zA rfl (zA3 (o' := 5) zD0 rfl sz3 rfl rfl rfl) ?_
    refine zA rfl (zA7 uz3 rfl rfl (hs.cellAt 0 rfl rfl)) ?_
    refine zA rfl (zCo zC2 sz5 rfl rfl (lo := pos) rfl (by omega)) ?_
    refine zAa rfl en77 (hr.calls hM.toP hM.toW hV hs (by have h9 := (hs.rdOwn 1 rfl).subB (lo := pos) (hi := mb.length) (by omega) (Nat.le_refl _); rw [List.take_length] at h9; exact h9) (by simp) (by omega)) ?_
    clear hs
    rintro _ w ⟨s1, s2, rfl, hs⟩
    simp only [mfP, List.cons_append, List.nil_append] at hs
    refine zA rfl (zA0 (v := .tuple _) rfl) ?_
    refine zA rfl (zAc (v := .int .i64 _) rfl rfl) ?_
    refine zA rfl (zAc (v := .agg _) rfl rfl) ?_
    refine zA rfl (zAc (v := .int .i64 _) rfl rfl) ?_
    refine zA rfl (zAc (v := .nilIface) rfl rfl) ?_
    refine zBh hs rfl ze41 ?_
    clear hs
    intro b8 w hs
    try simp only [List.set_cons_succ, List.set_cons_zero] at hs
    refine zA rfl (zA2 (v := .int .i64 _) rfl) ?_
    refine zAq hs 0 rfl rfl rfl sz41 rfl rfl ?_
    clear hs
    intro w hs
    try simp only [List.set_cons_succ, List.set_cons_zero] at hs
    refine zA rfl (zA2 (v := .int .i64 _) rfl) ?_
    refine zA rfl (zA2 (v := .nilIface) rfl) ?_
    refine zA4 ?_
    refine zA5 ?_
    refine zA5 ?_
    refine zAw zBt (hs.drop 6) ?_
    intro w tr hK
    replace hs := tr _ hs
    clear tr
    refine zA6 0 rfl rfl (fun w hs => zA0 (v := .nilIface) rfl) hK ?_
    refine zA6 1 rfl rfl (fun w hs => zBj rfl) hK ?_
    refine zA6 2 rfl rfl (fun w hs => zA0 (v := .bool _) rfl) hK ?_
    refine zAh 3 rfl rfl rfl rfl (rfl) (fun w hs => zA0 (v := .pointer (some _)) rfl) hK ?_
    refine zAh 4 rfl rfl rfl rfl (rfl) (fun w hs => zA8 rfl) hK ?_
    refine zAh 5 rfl rfl rfl rfl (rfl) (fun w hs => zA3 (o' := 3) zD0 rfl sz2 rfl rfl rfl) hK ?_
    refine zAh 6 rfl rfl rfl rfl (rfl) (fun w hs => zA7 uz2 rfl rfl (hs.cellAt 3 rfl rfl)) hK ?_
    refine zAh 7 rfl rfl rfl rfl (rfl) (fun w hs => zBq rfl rfl) hK ?_
    refine zA6 8 rfl rfl (fun w hs => zAj (v := .bool _) rfl (rfl) rfl) hK ?_
    refine zA6 9 rfl rfl (fun w hs => zA0 (v := .bool _) rfl) hK ?_
    refine zAh 10 rfl rfl rfl rfl (decide_eq_false (by omega)) (fun w hs => zA0 (v := .int .i64 _) rfl) hK ?_
    refine zAh 11 rfl rfl rfl rfl (decide_eq_false (by omega)) (fun w hs => zA0 (v := .pointer (some _)) rfl) hK ?_
    refine zAh 12 rfl rfl rfl rfl (decide_eq_false (by omega)) (fun w hs => zA8 rfl) hK ?_
    refine zAh 13 rfl rfl rfl rfl (decide_eq_false (by omega)) (fun w hs => zA3 (o' := 3) zD0 rfl sz2 rfl rfl rfl) hK ?_
    refine zAh 14 rfl rfl rfl rfl (decide_eq_false (by omega)) (fun w hs => zA7 uz2 rfl rfl (hs.cellAt 3 rfl rfl)) hK ?_
    refine zAh 15 rfl rfl rfl rfl (decide_eq_false (by omega)) (fun w hs => zAp rfl rfl (c := ((q + 1 : Nat) : Int)) (by omega) (inI (by omega) (by omega))) hK ?_
    refine zAh 16 rfl rfl rfl rfl (decide_eq_false (by omega)) (fun w hs => zE6 rfl rfl) hK ?_
    refine zA6 17 rfl rfl (fun w hs => zAj (v := .bool _) rfl (decide_eq_false (by omega)) rfl) hK ?_
    refine zA6 18 rfl rfl (fun w hs => zA0 (v := .bool _) rfl) hK ?_
    refine zAh 19 rfl rfl rfl rfl ((by rw [decide_eq_true rfl]; rfl)) (fun w hs => zA0 (v := .pointer (some _)) rfl) hK ?_
    refine zAh 20 rfl rfl rfl rfl ((by rw [decide_eq_true rfl]; rfl)) (fun w hs => zA8 rfl) hK ?_
    refine zAh 21 rfl rfl rfl rfl ((by rw [decide_eq_true rfl]; rfl)) (fun w hs => zA3 (o' := 2) zD0 rfl sz33 rfl rfl rfl) hK ?_
    refine zAh 22 rfl rfl rfl rfl ((by rw [decide_eq_true rfl]; rfl)) (fun w hs => zA7 uz33 rfl rfl (hs.cellAt 3 rfl rfl)) hK ?_
    refine zAh 23 rfl rfl rfl rfl ((by rw [decide_eq_true rfl]; rfl)) (fun w hs => zBc hs 0 rfl uz41 sz41 rfl) hK ?_
    refine zAb [24] ?_
    refine ⟨⟨_, rfl, ?_⟩, trivial⟩
    refine zAk rfl rfl ((by rw [decide_eq_true rfl]; rfl)) ?_
    refine zAa rfl en14 (applyq_sl hV (hs.arr [6, 0, 1, 2, 3, 4, 5] 7 (by decide)) k (x := x) (e := s1) (o := s2) (MfR.own 1 2 rfl rfl) (by have := mf_len (x := x) (by rw [(hr.fine _ _ _ rfl).1.1]); omega)) ?_
    clear hs
    rintro _ w ⟨eb, rfl, hs⟩
    clear hK
    have hK := hs.tail.tail
    refine zA4 ⟨hK, ?_⟩
    refine @aw_takeOn _ _ _ _ _ _ _ _ _ _ _ _ _ _ 25 _ _ _ _ _ rfl (by kernel_rfl) (by kernel_rfl) (by kernel_rfl) rfl rfl rfl (by simp) (fun w hs => run_neF (.inr hba) rfl) hK ?_
    refine zA6 26 rfl rfl (fun w hs => zAj (v := .bool _) rfl ((by rw [decide_eq_true rfl]; rfl)) rfl) hK ?_
    refine zAs (by kernel_rfl) ?_
    clear hK
    refine zB9 rfl ((by simp [hba])) ?_
    refine zBk rfl ?_
    refine zA5 ?_
    refine zA5 ?_
    have e5 : c = cc := by omega
    subst e5
    have e6 : n = pos := by omega
    subst e6
    rw [Vw.apply_ne hba] at hs
    have h9 : Mem g w (lgP p d ev pv q c n :: own (.slice a18 mb.length c18) (zAl mb) :: zBv d dk :: zD8 pv V :: L) := hs.arr [5, 6, 7, 1] 8 (by decide)
    replace hs := h9
    clear h9
    refine zA1 ?_
    refine zA rfl (zA0 (v := .pointer (some _)) rfl) ?_
    refine zA rfl (zA8 rfl) ?_
    refine zA rfl (zA3 (o' := 5) zD0 rfl sz3 rfl rfl rfl) ?_
    refine zA rfl (zA7 uz3 rfl rfl (hs.cellAt 0 rfl rfl)) ?_
    refine zA rfl (zA0 (v := .int .i64 _) rfl) ?_
    refine zA rfl (zBq rfl rfl) ?_
    refine zA4 ?_
    refine zB7 rfl ?_ ?_
    ·
     intro h95
     have g95 := of_decide_eq_true h95
     refine zA5 (zA1 ?_)
     refine zA rfl (zA2 (v := .nilIface) rfl) ?_
     refine zA4 ?_
     refine zAf ?_
     refine zBg (v := .nilIface) rfl rfl ?_
     exact ⟨_, rfl, rfl, dk, ha, rfl, by omega, by rw [List.take_of_length_le (by omega), updF_self hf]; exact hI, hs.arr [0, 3, 2] 4 (by decide)⟩
    ·
     intro h95
     have g95 := of_decide_eq_false h95
     obtain ⟨kc, dc, hcut, hcr, hcc, hccase⟩ := hI.cut zEr hf (m := n) (by omega)
     obtain ⟨rfl, hup2, har2, hI4⟩ := hccase.resolve_right (fun h => h.2.2.1 ha)
     refine zAd ?_
     refine zA5 ?_
     refine zA5 ?_
     refine zAw zBt (hs.drop 2) ?_
     intro w tr hK
     replace hs := tr _ hs
     clear tr
     refine zA6 0 rfl rfl (fun w hs => zA0 (v := .pointer (some _)) rfl) hK ?_
     refine zA6 1 rfl rfl (fun w hs => zA8 rfl) hK ?_
     refine zA6 2 rfl rfl (fun w hs => zA3 (o' := 0) zD0 rfl sz25 rfl rfl rfl) hK ?_
     refine zA6 3 rfl rfl (fun w hs => zA7 uz25 rfl rfl (hs.cellAt 0 rfl rfl)) hK ?_
     refine zA6 4 rfl rfl (fun w hs => zA0 (v := .pointer (some _)) rfl) hK ?_
     refine zA6 5 rfl rfl (fun w hs => zA8 rfl) hK ?_
     refine zA6 6 rfl rfl (fun w hs => zA3 (o' := 5) zD0 rfl sz3 rfl rfl rfl) hK ?_
     refine zA6 7 rfl rfl (fun w hs => zA7 uz3 rfl rfl (hs.cellAt 0 rfl rfl)) hK ?_
     refine zAb [8] ?_
     refine ⟨⟨_, rfl, ?_⟩, trivial⟩
     refine zAa rfl en18 (cut_sl hM.toK (hs.arr [2, 0, 1, 3] 4 (by decide)) (by omega) mtN (m := ((n : Nat) : Int)) (inI (by omega) (by omega)) hcut) ?_
     clear hs
     rintro _ w ⟨rfl, hs⟩
     clear hK
     have hK := hs.tail
     refine zA4 ⟨hK, ?_⟩
     refine zA6 9 rfl rfl (fun w hs => zA2 (v := zAo ad _) rfl) hK ?_
     refine zAs (by kernel_rfl) ?_
     clear hK
     refine zA5 (zA1 ?_)
     refine zA rfl (zA0 (v := zAo ad _) rfl) ?_
     refine zA rfl (zAy (ad := ad) rfl) ?_
     refine zA4 ?_
     refine zB rfl (rfl) ?_
     refine zAd ?_
     refine zA5 ?_
     have hI5 := hI4 (hs.openD).1
     obtain ⟨ds, hsy, hsr, hsa, hsc, hI6⟩ := hI5.sync (har2 ha) zEr (zCz _ _ _)
     refine zA1 ?_
     refine zA rfl (zA0 (v := .pointer (some _)) rfl) ?_
     refine zA rfl (zA8 rfl) ?_
     refine zA rfl (zA3 (o' := 0) zD0 rfl sz25 rfl rfl rfl) ?_
     refine zA rfl (zA7 uz25 rfl rfl (hs.cellAt 1 rfl rfl)) ?_
     refine zAa rfl en39 (sync_sl hM.toK hs (by omega) mtN hsy) ?_
     clear hs
     rintro _ w ⟨rfl, hs⟩
     refine zA rfl (zA2 (v := zAo ad _) rfl) ?_
     refine zA4 ?_
     refine zAf ?_
     refine zBg (v := zAo ad _) rfl rfl ?_
     exact ⟨_, rfl, zB2 ad, ds, hsa, hsr.trans hcr, by omega, hI6 (hs.openD).1, hs.arr [1, 3, 0] 4 (by decide)⟩
   ·
    refine zA1 ?_
    refine zA rfl (zA0 (v := .slice _ _ _) rfl) ?_
    refine zA rfl (zA0 (v := .pointer (some _)) rfl) ?_
    refine zA rfl (zA8 rfl) ?_
    refine zA rfl (zA3 (o' := 5) zD0 rfl sz3 rfl rfl rfl) ?_
    refine zA rfl (zA7 uz3 rfl rfl (hs.cellAt 0 rfl rfl)) ?_
    refine zA rfl (zCo zC2 sz5 rfl rfl (lo := pos) rfl (by omega)) ?_
    refine zAa rfl en77 (hr.calls hM.toP hM.toW hV hs (by have h9 := (hs.rdOwn 1 rfl).subB (lo := pos) (hi := mb.length) (by omega) (Nat.le_refl _); rw [List.take_length] at h9; exact h9) (by simp) (by omega)) ?_
    clear hs
    rintro _ w ⟨s1, s2, rfl, hs⟩
    simp only [mfP, List.cons_append, List.nil_append] at hs
    refine zA rfl (zA0 (v := .tuple _) rfl) ?_
    refine zA rfl (zAc (v := .int .i64 _) rfl rfl) ?_
    refine zA rfl (zAc (v := .agg _) rfl rfl) ?_
    refine zA rfl (zAc (v := .int .i64 _) rfl rfl) ?_
    refine zA rfl (zAc (v := .nilIface) rfl rfl) ?_
    refine zBh hs rfl ze41 ?_
    clear hs
    intro b8 w hs
    try simp only [List.set_cons_succ, List.set_cons_zero] at hs
    refine zA rfl (zA2 (v := .int .i64 _) rfl) ?_
    refine zAq hs 0 rfl rfl rfl sz41 rfl rfl ?_
    clear hs
    intro w hs
    try simp only [List.set_cons_succ, List.set_cons_zero] at hs
    refine zA rfl (zA2 (v := .int .i64 _) rfl) ?_
    refine zA rfl (zA2 (v := .nilIface) rfl) ?_
    refine zA4 ?_
    refine zA5 ?_
    refine zA5 ?_
    refine zAw zBt (hs.drop 6) ?_
    intro w tr hK
    replace hs := tr _ hs
    clear tr
    refine zA6 0 rfl rfl (fun w hs => zA0 (v := .nilIface) rfl) hK ?_
    refine zA6 1 rfl rfl (fun w hs => zBj rfl) hK ?_
    refine zA6 2 rfl rfl (fun w hs => zA0 (v := .bool _) rfl) hK ?_
    refine zAh 3 rfl rfl rfl rfl (rfl) (fun w hs => zA0 (v := .pointer (some _)) rfl) hK ?_
    refine zAh 4 rfl rfl rfl rfl (rfl) (fun w hs => zA8 rfl) hK ?_
    refine zAh 5 rfl rfl rfl rfl (rfl) (fun w hs => zA3 (o' := 3) zD0 rfl sz2 rfl rfl rfl) hK ?_
    refine zAh 6 rfl rfl rfl rfl (rfl) (fun w hs => zA7 uz2 rfl rfl (hs.cellAt 3 rfl rfl)) hK ?_
    refine zAh 7 rfl rfl rfl rfl (rfl) (fun w hs => zBq rfl rfl) hK ?_
    refine zA6 8 rfl rfl (fun w hs => zAj (v := .bool _) rfl (rfl) rfl) hK ?_
    refine zA6 9 rfl rfl (fun w hs => zA0 (v := .bool _) rfl) hK ?_
    refine zAh 10 rfl rfl rfl rfl (decide_eq_false (by omega)) (fun w hs => zA0 (v := .int .i64 _) rfl) hK ?_
    refine zAh 11 rfl rfl rfl rfl (decide_eq_false (by omega)) (fun w hs => zA0 (v := .pointer (some _)) rfl) hK ?_
    refine zAh 12 rfl rfl rfl rfl (decide_eq_false (by omega)) (fun w hs => zA8 rfl) hK ?_
    refine zAh 13 rfl rfl rfl rfl (decide_eq_false (by omega)) (fun w hs => zA3 (o' := 3) zD0 rfl sz2 rfl rfl rfl) hK ?_
    refine zAh 14 rfl rfl rfl rfl (decide_eq_false (by omega)) (fun w hs => zA7 uz2 rfl rfl (hs.cellAt 3 rfl rfl)) hK ?_
    refine zAh 15 rfl rfl rfl rfl (decide_eq_false (by omega)) (fun w hs => zAp rfl rfl (c := ((qc + 1 : Nat) : Int)) (by omega) (inI (by omega) (by omega))) hK ?_
    refine zAh 16 rfl rfl rfl rfl (decide_eq_false (by omega)) (fun w hs => zE6 rfl rfl) hK ?_
    refine zA6 17 rfl rfl (fun w hs => zAj (v := .bool _) rfl (decide_eq_false (by omega)) rfl) hK ?_
    refine zA6 18 rfl rfl (fun w hs => zA0 (v := .bool _) rfl) hK ?_
    refine zAh 19 rfl rfl rfl rfl ((by rw [decide_eq_true rfl]; rfl)) (fun w hs => zA0 (v := .pointer (some _)) rfl) hK ?_
    refine zAh 20 rfl rfl rfl rfl ((by rw [decide_eq_true rfl]; rfl)) (fun w hs => zA8 rfl) hK ?_
    refine zAh 21 rfl rfl rfl rfl ((by rw [decide_eq_true rfl]; rfl)) (fun w hs => zA3 (o' := 2) zD0 rfl sz33 rfl rfl rfl) hK ?_
    refine zAh 22 rfl rfl rfl rfl ((by rw [decide_eq_true rfl]; rfl)) (fun w hs => zA7 uz33 rfl rfl (hs.cellAt 3 rfl rfl)) hK ?_
    refine zAh 23 rfl rfl rfl rfl ((by rw [decide_eq_true rfl]; rfl)) (fun w hs => zBc hs 0 rfl uz41 sz41 rfl) hK ?_
    refine zAb [24] ?_
    refine ⟨⟨_, rfl, ?_⟩, trivial⟩
    refine zAk rfl rfl ((by rw [decide_eq_true rfl]; rfl)) ?_
    refine zAa rfl en14 (applyq_sl hV (hs.arr [6, 0, 1, 2, 3, 4, 5] 7 (by decide)) k (x := x) (e := s1) (o := s2) (MfR.own 1 2 rfl rfl) (by have := mf_len (x := x) (by rw [(hr.fine _ _ _ rfl).1.1]); omega)) ?_
    clear hs
    rintro _ w ⟨eb, rfl, hs⟩
    rw [hap] at hs ⊢
    replace hs := hs.tail
    clear hK
    have hK := hs.tail
    refine zA4 ⟨hK, ?_⟩
    refine zAh 25 rfl rfl rfl rfl ((by rw [decide_eq_true rfl]; rfl)) (fun w hs => zAy (ad := ad) rfl) hK ?_
    refine zA6 26 rfl rfl (fun w hs => zAj (v := .bool _) rfl ((by rw [decide_eq_true rfl]; rfl)) rfl) hK ?_
    refine zAs (by kernel_rfl) ?_
    clear hK
    refine zB rfl (rfl) ?_
    refine zAd ?_
    refine zAw zBt (hs.drop 4) ?_
    intro w tr hK
    replace hs := tr _ hs
    clear tr
    refine zA6 0 rfl rfl (fun w hs => zA0 (v := .pointer (some _)) rfl) hK ?_
    refine zA6 1 rfl rfl (fun w hs => zA0 (v := .pointer (some _)) rfl) hK ?_
    refine zA6 2 rfl rfl (fun w hs => zA0 (v := .pointer (some _)) rfl) hK ?_
    refine zA6 3 rfl rfl (fun w hs => zA0 (v := .int .i64 _) rfl) hK ?_
    refine zA6 4 rfl rfl (fun w hs => zA0 (v := .pointer (some _)) rfl) hK ?_
    refine zA6 5 rfl rfl (fun w hs => zA8 rfl) hK ?_
    refine zA6 6 rfl rfl (fun w hs => zA3 (o' := 4) zD0 rfl sz3 rfl rfl rfl) hK ?_
    refine zA6 9 rfl rfl (fun w hs => zA0 (v := .pointer (some _)) rfl) hK ?_
    refine zA6 10 rfl rfl (fun w hs => zA8 rfl) hK ?_
    refine zA6 11 rfl rfl (fun w hs => zA3 (o' := 5) zD0 rfl sz3 rfl rfl rfl) hK ?_
    refine zA6 13 rfl rfl (fun w hs => zA0 (v := .int .i64 _) rfl) hK ?_
    refine zAb [7, 12] ?_
    refine ⟨⟨_, rfl, ?_⟩, ⟨_, rfl, ?_⟩, trivial⟩
    ·
     refine zA rfl (zA7 uz3 rfl rfl (hs.cellAt 4 rfl rfl)) ?_
     clear hK
     have hK := hs.drop 4
     refine zA4 ⟨hK, ?_⟩
     refine zA6 8 rfl rfl (fun w hs => zAp rfl rfl (c := ((cc + 1 : Nat) : Int)) (by omega) (inI (by omega) (by omega))) hK ?_
     refine zAb [12] ?_
     refine ⟨⟨_, rfl, ?_⟩, trivial⟩
     refine zA rfl (zA7 uz3 rfl rfl (hs.cellAt 4 rfl rfl)) ?_
     clear hK
     have hK := hs.drop 4
     refine zA4 ⟨hK, ?_⟩
     refine zA6 14 rfl rfl (fun w hs => zAp rfl rfl (c := ((pos + z : Nat) : Int)) (by omega) (inI (by omega) (by omega))) hK ?_
     refine zA6 15 rfl rfl (fun w hs => zA8 rfl) hK ?_
     refine zA6 16 rfl rfl (fun w hs => zA3 (o' := 3) zD0 rfl sz2 rfl rfl rfl) hK ?_
     refine zAb [17] ?_
     refine ⟨⟨_, rfl, ?_⟩, trivial⟩
     refine zAv (v := .int .i64 _) hs 4 rfl sz2 rfl rfl rfl rfl ?_
     clear hs
     intro w hs
     try simp only [List.set_cons_succ, List.set_cons_zero] at hs
     clear hK
     have hK := hs.drop 4
     refine zA4 ⟨hK, ?_⟩
     refine zA6 18 rfl rfl (fun w hs => zA8 rfl) hK ?_
     refine zA6 19 rfl rfl (fun w hs => zA3 (o' := 4) zD0 rfl sz3 rfl rfl rfl) hK ?_
     refine zAb [20] ?_
     refine ⟨⟨_, rfl, ?_⟩, trivial⟩
     refine zAv (v := .int .i64 _) hs 4 rfl sz3 rfl rfl rfl rfl ?_
     clear hs
     intro w hs
     try simp only [List.set_cons_succ, List.set_cons_zero] at hs
     clear hK
     have hK := hs.drop 4
     refine zA4 ⟨hK, ?_⟩
     refine zA6 21 rfl rfl (fun w hs => zA8 rfl) hK ?_
     refine zA6 22 rfl rfl (fun w hs => zA3 (o' := 5) zD0 rfl sz3 rfl rfl rfl) hK ?_
     refine zAb [23] ?_
     refine ⟨⟨_, rfl, ?_⟩, trivial⟩
     refine zAv (v := .int .i64 _) hs 4 rfl sz3 rfl rfl rfl rfl ?_
     clear hs
     intro w hs
     try simp only [List.set_cons_succ, List.set_cons_zero] at hs
     clear hK
     have hK := hs.drop 4
     refine zA4 ⟨hK, ?_⟩
     refine zAs (by kernel_rfl) ?_
     clear hK
     have hz := hr.fine _ _ _ rfl
     have hzl : z ≤ mb.length - pos := by have := hz.2.2.1; rw [List.length_drop] at this; exact this
     exact ⟨((W.apply k x).2, qc + 1, cc + 1, pos + z), by simp only; omega, ⟨⟨by simp only; omega, c2, n2, by simp only; rw [← List.drop_drop]; exact hE2, by simp only; omega, by simp only; omega⟩, hs.arr [4, 5, 6, 0] 7 (by decide)⟩, trivial, by repeat (first | exact Out.mix _ _ _ | refine Out.updo rfl ?_ | refine Out.upd rfl ?_ | refine Out.mixIn rfl ?_)⟩
    ·
     refine zA rfl (zA7 uz3 rfl rfl (hs.cellAt 4 rfl rfl)) ?_
     clear hK
     have hK := hs.drop 4
     refine zA4 ⟨hK, ?_⟩
     refine zA6 14 rfl rfl (fun w hs => zAp rfl rfl (c := ((pos + z : Nat) : Int)) (by omega) (inI (by omega) (by omega))) hK ?_
     refine zAb [7] ?_
     refine ⟨⟨_, rfl, ?_⟩, trivial⟩
     refine zA rfl (zA7 uz3 rfl rfl (hs.cellAt 4 rfl rfl)) ?_
     clear hK
     have hK := hs.drop 4
     refine zA4 ⟨hK, ?_⟩
     refine zA6 8 rfl rfl (fun w hs => zAp rfl rfl (c := ((cc + 1 : Nat) : Int)) (by omega) (inI (by omega) (by omega))) hK ?_
     refine zA6 15 rfl rfl (fun w hs => zA8 rfl) hK ?_
     refine zA6 16 rfl rfl (fun w hs => zA3 (o' := 3) zD0 rfl sz2 rfl rfl rfl) hK ?_
     refine zAb [17] ?_
     refine ⟨⟨_, rfl, ?_⟩, trivial⟩
     refine zAv (v := .int .i64 _) hs 4 rfl sz2 rfl rfl rfl rfl ?_
     clear hs
     intro w hs
     try simp only [List.set_cons_succ, List.set_cons_zero] at hs
     clear hK
     have hK := hs.drop 4
     refine zA4 ⟨hK, ?_⟩
     refine zA6 18 rfl rfl (fun w hs => zA8 rfl) hK ?_
     refine zA6 19 rfl rfl (fun w hs => zA3 (o' := 4) zD0 rfl sz3 rfl rfl rfl) hK ?_
     refine zAb [20] ?_
     refine ⟨⟨_, rfl, ?_⟩, trivial⟩
     refine zAv (v := .int .i64 _) hs 4 rfl sz3 rfl rfl rfl rfl ?_
     clear hs
     intro w hs
     try simp only [List.set_cons_succ, List.set_cons_zero] at hs
     clear hK
     have hK := hs.drop 4
     refine zA4 ⟨hK, ?_⟩
     refine zA6 21 rfl rfl (fun w hs => zA8 rfl) hK ?_
     refine zA6 22 rfl rfl (fun w hs => zA3 (o' := 5) zD0 rfl sz3 rfl rfl rfl) hK ?_
     refine zAb [23] ?_
     refine ⟨⟨_, rfl, ?_⟩, trivial⟩
     refine zAv (v := .int .i64 _) hs 4 rfl sz3 rfl rfl rfl rfl ?_
     clear hs
     intro w hs
     try simp only [List.set_cons_succ, List.set_cons_zero] at hs
     clear hK
     have hK := hs.drop 4
     refine zA4 ⟨hK, ?_⟩
     refine zAs (by kernel_rfl) ?_
     clear hK
     have hz := hr.fine _ _ _ rfl
     have hzl : z ≤ mb.length - pos := by have := hz.2.2.1; rw [List.length_drop] at this; exact this
     exact ⟨((W.apply k x).2, qc + 1, cc + 1, pos + z), by simp only; omega, ⟨⟨by simp only; omega, c2, n2, by simp only; rw [← List.drop_drop]; exact hE2, by simp only; omega, by simp only; omega⟩, hs.arr [4, 5, 6, 0] 7 (by decide)⟩, trivial, by repeat (first | exact Out.mix _ _ _ | refine Out.updo rfl ?_ | refine Out.upd rfl ?_ | refine Out.mixIn rfl ?_)⟩
  ·
   intro h29
   have g29 := of_decide_eq_false h29
   refine zBk rfl ?_
   refine zA5 ?_
   refine zA5 ?_
   have hdn : mb.drop pos = [] := List.drop_eq_nil_iff.2 (by omega)
   rw [hdn] at hE
   obtain ⟨e1, e2, e3, e4⟩ := hE.of_nil
   subst e1
   subst e2
   subst e3
   subst e4
   have e5 : c = cc := by omega
   subst e5
   have e6 : n = pos := by omega
   subst e6
   refine zA1 ?_
   refine zA rfl (zA0 (v := .pointer (some _)) rfl) ?_
   refine zA rfl (zA8 rfl) ?_
   refine zA rfl (zA3 (o' := 5) zD0 rfl sz3 rfl rfl rfl) ?_
   refine zA rfl (zA7 uz3 rfl rfl (hs.cellAt 0 rfl rfl)) ?_
   refine zA rfl (zA0 (v := .int .i64 _) rfl) ?_
   refine zA rfl (zBq rfl rfl) ?_
   refine zA4 ?_
   refine zB7 rfl ?_ ?_
   ·
    intro h95
    have g95 := of_decide_eq_true h95
    refine zA5 (zA1 ?_)
    refine zA rfl (zA2 (v := .nilIface) rfl) ?_
    refine zA4 ?_
    refine zAf ?_
    refine zBg (v := .nilIface) rfl rfl ?_
    exact ⟨_, rfl, rfl, dk, ha, rfl, by omega, by rw [List.take_of_length_le (by omega), updF_self hf]; exact hI, hs.arr [0, 3, 2] 4 (by decide)⟩
   ·
    intro h95
    have g95 := of_decide_eq_false h95
    obtain ⟨kc, dc, hcut, hcr, hcc, hccase⟩ := hI.cut zEr hf (m := n) (by omega)
    obtain ⟨rfl, hup2, har2, hI4⟩ := hccase.resolve_right (fun h => h.2.2.1 ha)
    refine zAd ?_
    refine zA5 ?_
    refine zA5 ?_
    refine zAw zBt (hs.drop 2) ?_
    intro w tr hK
    replace hs := tr _ hs
    clear tr
    refine zA6 0 rfl rfl (fun w hs => zA0 (v := .pointer (some _)) rfl) hK ?_
    refine zA6 1 rfl rfl (fun w hs => zA8 rfl) hK ?_
    refine zA6 2 rfl rfl (fun w hs => zA3 (o' := 0) zD0 rfl sz25 rfl rfl rfl) hK ?_
    refine zA6 3 rfl rfl (fun w hs => zA7 uz25 rfl rfl (hs.cellAt 0 rfl rfl)) hK ?_
    refine zA6 4 rfl rfl (fun w hs => zA0 (v := .pointer (some _)) rfl) hK ?_
    refine zA6 5 rfl rfl (fun w hs => zA8 rfl) hK ?_
    refine zA6 6 rfl rfl (fun w hs => zA3 (o' := 5) zD0 rfl sz3 rfl rfl rfl) hK ?_
    refine zA6 7 rfl rfl (fun w hs => zA7 uz3 rfl rfl (hs.cellAt 0 rfl rfl)) hK ?_
    refine zAb [8] ?_
    refine ⟨⟨_, rfl, ?_⟩, trivial⟩
    refine zAa rfl en18 (cut_sl hM.toK (hs.arr [2, 0, 1, 3] 4 (by decide)) (by omega) mtN (m := ((n : Nat) : Int)) (inI (by omega) (by omega)) hcut) ?_
    clear hs
    rintro _ w ⟨rfl, hs⟩
    clear hK
    have hK := hs.tail
    refine zA4 ⟨hK, ?_⟩
    refine zA6 9 rfl rfl (fun w hs => zA2 (v := zAo ad _) rfl) hK ?_
    refine zAs (by kernel_rfl) ?_
    clear hK
    refine zA5 (zA1 ?_)
    refine zA rfl (zA0 (v := zAo ad _) rfl) ?_
    refine zA rfl (zAy (ad := ad) rfl) ?_
    refine zA4 ?_
    refine zB rfl (rfl) ?_
    refine zAd ?_
    refine zA5 ?_
    have hI5 := hI4 (hs.openD).1
    obtain ⟨ds, hsy, hsr, hsa, hsc, hI6⟩ := hI5.sync (har2 ha) zEr (zCz _ _ _)
    refine zA1 ?_
    refine zA rfl (zA0 (v := .pointer (some _)) rfl) ?_
    refine zA rfl (zA8 rfl) ?_
    refine zA rfl (zA3 (o' := 0) zD0 rfl sz25 rfl rfl rfl) ?_
    refine zA rfl (zA7 uz25 rfl rfl (hs.cellAt 1 rfl rfl)) ?_
    refine zAa rfl en39 (sync_sl hM.toK hs (by omega) mtN hsy) ?_
    clear hs
    rintro _ w ⟨rfl, hs⟩
    refine zA rfl (zA2 (v := zAo ad _) rfl) ?_
    refine zA4 ?_
    refine zAf ?_
    refine zBg (v := zAo ad _) rfl rfl ?_
    exact ⟨_, rfl, zB2 ad, ds, hsa, hsr.trans hcr, by omega, hI6 (hs.openD).1, hs.arr [1, 3, 0] 4 (by decide)⟩
end Go.Proofs.YtdkgdjnbpjjfmaaGreatDoor
namespace Go.Proofs.YtdkgdjnbpjjfmaaGreatDoor
set_option linter.all false
open Go.RowKit
attribute [local irreducible] zAo eV
variable {g w : World} {L M : List HP} {ad : Nat → Addr} {p d pv ev : Nat} {dk : Dk} {f : ByteArray → Option (List UInt8)} {V U : Vw} {q r c n : Nat} {b mb : List UInt8}

set_option maxHeartbeats 1000000 in
theorem openM_sl (hM : ErrM ad g) (hs : Mem g w (zBv d dk :: L)) (hI : LgI f dk) (ha : dk.armed = 0) (hcl : dk.calls < 800000) (hev : 1 ≤ ev ∧ ev ≤ 4096) {V0 : Vw} {q0 : Nat} (hSn : Snp f V0 q0) (ho : V0.ok) (hu : V0.sums) (hl : V0.length ≤ 100) (hf : f mtN = some mb ∨ f mtN = none ∧ mb = []) (hml : mb.length ≤ 1000000) (hent : Ent V0 q0 mb V q c n) (hq : q < 4611686018427387904) :
    Calls Tryz.prog 10 #[.pointer (some ⟨d, 0, none⟩), .int .i64 (ev : Nat)] w (Ret fun v w' => ∃ p dk2, v = .tuple #[.pointer (some ⟨p, 0, none⟩), .nilIface] ∧ dk2.armed = 0 ∧ dk2.room = dk.room ∧ dk2.calls ≤ dk.calls + 4 ∧ LgI (zDt f mtN (mb.take n)) dk2 ∧ Mem g w' (LogC p d ev V q c n :: zBv d dk2 :: L)) := by
  have hK := hM.toK
  have hle := hent.le
  have hll := hI.lenR zEr
  refine zAm Tryz.func10 rfl rfl ?_
  skip
  refine zA5 (zA1 ?_)
  refine zA rfl (zA2 (v := .pointer none) rfl) ?_
  refine zA rfl (zA2 (v := .nilIface) rfl) ?_
  refine zA4 ?_
  refine zA5 ?_
  refine zA5 (zA1 ?_)
  refine zA rfl (zA0 (v := .int .i64 _) rfl) ?_
  refine zA rfl (zB3 rfl rfl) ?_
  refine zA rfl (zA0 (v := .bool _) rfl) ?_
  refine zAk rfl rfl (decide_eq_false (by omega)) ?_
  refine zA rfl (zA0 (v := .int .i64 _) rfl) ?_
  refine zAk rfl rfl (decide_eq_false (by omega)) ?_
  refine zA rfl (zBi rfl rfl) ?_
  refine zA rfl (zAj (v := .bool _) rfl (decide_eq_false (by omega)) rfl) ?_
  refine zA4 ?_
  refine zB rfl (decide_eq_false (by omega)) ?_
  refine zAd ?_
  refine zA5 (zA1 ?_)
  refine zA rfl (zA0 (v := .pointer (some _)) rfl) ?_
  refine zA rfl (zA0 (v := .int .i64 _) rfl) ?_
  refine zAa rfl en11 (newq_sl hs) ?_
  clear hs
  rintro _ w ⟨pv, rfl, hs⟩
  refine zA rfl (zCn (cs := [.pointer (some ⟨d, 0, none⟩), .int .i64 (ev : Nat), .pointer (some ⟨pv, 0, none⟩), .int .i64 ((0 : Nat) : Int), .int .i64 ((0 : Nat) : Int), .int .i64 ((0 : Nat) : Int)]) zD0 ze74 pl74 rfl) ?_
  refine zCd (v := .agg _) hs rfl rfl ?_
  clear hs
  intro b21 w hs
  try simp only [List.set_cons_succ, List.set_cons_zero] at hs
  refine zA rfl (zA2 (v := .pointer (some _)) rfl) ?_
  refine zA4 ?_
  replace hs : Mem g w (lgP b21 d ev pv 0 0 0 :: zD8 pv [] :: zBv d dk :: L) := hs
  refine zA5 ?_
  refine zA5 ?_
  obtain ⟨hfn, rfl, rfl⟩ | hfn := hSn
  ·
   refine zA1 ?_
   refine zA rfl (zA0 (v := .pointer (some _)) rfl) ?_
   refine zAa rfl en33 (snapNo_sl hM hs (hI.pread_none mem_sn hfn)) ?_
   clear hs
   rintro _ w ⟨rfl, hs⟩
   refine zA rfl (zA2 (v := .nilIface) rfl) ?_
   refine zA4 (zA5 (zA1 ?_))
   refine zA rfl (zA0 (v := .nilIface) rfl) ?_
   refine zA rfl (zBj rfl) ?_
   refine zA4 ?_
   refine zB rfl (rfl) ?_
   refine zAd ?_
   refine zA5 ?_
   obtain hfm | ⟨hfm, rfl⟩ := hf
   ·
    replace hll : dk.lenR mtN = (0, mb.length) := by rw [hll, hfm]; rfl
    refine zA1 ?_
    refine zA rfl (zA0 (v := .pointer (some _)) rfl) ?_
    refine zAa rfl en15 (len_sl hM.toK (hs.arr [2, 0, 1] 3 (by decide)) mtN hll) ?_
    clear hs
    rintro _ w ⟨rfl, hs⟩
    refine zA rfl (zA0 (v := .tuple _) rfl) ?_
    refine zA rfl (zAc (v := .int .i64 _) rfl rfl) ?_
    refine zA rfl (zAc (v := zAo ad _) rfl rfl) ?_
    refine zA rfl (zA2 (v := .int .i64 _) rfl) ?_
    refine zA rfl (zA2 (v := zAo ad _) rfl) ?_
    refine zA4 ?_
    refine zA5 ?_
    refine zA5 (zA1 ?_)
    refine zA rfl (zA0 (v := zAo ad _) rfl) ?_
    refine zA rfl (zA7 zCv rfl rfl (hK.cellW hs 107 (by decide) rfl)) ?_
    refine zA rfl (zEe (hK.atW hs) (by decide) (by decide) rfl rfl) ?_
    refine zA4 ?_
    refine zB rfl (rfl) ?_
    refine zAd ?_
    refine zA5 ?_
    refine zA5 (zA1 ?_)
    refine zA rfl (zA0 (v := zAo ad _) rfl) ?_
    refine zA rfl (zAy (ad := ad) rfl) ?_
    refine zA4 ?_
    refine zB rfl (rfl) ?_
    refine zAd ?_
    refine zA5 ?_
    refine zA5 (zA1 ?_)
    refine zA rfl (zA0 (v := .pointer (some _)) rfl) ?_
    refine zA rfl (zA0 (v := .int .i64 _) rfl) ?_
    refine zAa rfl en36 (entries_sl hM hI ha (by omega) hfm hml hent hq (hs.arr [1, 2, 0] 3 (by decide))) ?_
    clear hs
    rintro _ w ⟨rfl, d2, h1, h2, h3, h4, hs⟩
    refine zA rfl (zA2 (v := .nilIface) rfl) ?_
    refine zA4 (zA5 (zA1 ?_))
    refine zA rfl (zA0 (v := .nilIface) rfl) ?_
    refine zA rfl (zBj rfl) ?_
    refine zA4 ?_
    refine zB rfl (rfl) ?_
    refine zAd ?_
    refine zA5 (zA1 ?_)
    refine zA rfl (zA0 (v := .pointer (some _)) rfl) ?_
    refine zA rfl (zA2 (v := .pointer (some _)) rfl) ?_
    refine zA rfl (zA2 (v := .nilIface) rfl) ?_
    refine zA4 ?_
    refine zAf ?_
    refine res2 (v := .pointer (some _)) (v2 := .nilIface) rfl rfl rfl ?_
    exact ⟨_, rfl, _, d2, rfl, h1, h2, by omega, h4, hs.closeL⟩
   ·
    replace hll : dk.lenR mtN = (107, 0) := by rw [hll, hfm]; rfl
    obtain ⟨e1, e2, hcr, hsd, hroom, harm, hc1, hc2, hI2⟩ := hI.make ha zEr hfm mtN_valid
    refine zA1 ?_
    refine zA rfl (zA0 (v := .pointer (some _)) rfl) ?_
    refine zAa rfl en15 (len_sl hM.toK (hs.arr [2, 0, 1] 3 (by decide)) mtN hll) ?_
    clear hs
    rintro _ w ⟨rfl, hs⟩
    refine zA rfl (zA0 (v := .tuple _) rfl) ?_
    refine zA rfl (zAc (v := .int .i64 _) rfl rfl) ?_
    refine zA rfl (zAc (v := zAo ad _) rfl rfl) ?_
    refine zA rfl (zA2 (v := .int .i64 _) rfl) ?_
    refine zA rfl (zA2 (v := zAo ad _) rfl) ?_
    refine zA4 ?_
    refine zA5 ?_
    refine zA5 (zA1 ?_)
    refine zA rfl (zA0 (v := zAo ad _) rfl) ?_
    refine zA rfl (zA7 zCv rfl rfl (hK.cellW hs 107 (by decide) rfl)) ?_
    refine zA rfl (zEe (hK.atW hs) (by decide) (by decide) rfl rfl) ?_
    refine zA4 ?_
    refine zB9 rfl (rfl) ?_
    refine zA5 (zA1 ?_)
    refine zA rfl (zA0 (v := .pointer (some _)) rfl) ?_
    refine zAa rfl en34 (create_sl hM.toK hs (by omega) mtN hcr) ?_
    clear hs
    rintro _ w ⟨rfl, hs⟩
    refine zA rfl (zA2 (v := zAo ad _) rfl) ?_
    refine zA4 (zA5 (zA1 ?_))
    refine zA rfl (zA0 (v := zAo ad _) rfl) ?_
    refine zA rfl (zD (ad := ad) rfl) ?_
    refine zA4 ?_
    refine zB9 rfl (rfl) ?_
    refine zA1 ?_
    refine zA rfl (zA0 (v := .pointer (some _)) rfl) ?_
    refine zAa rfl en35 (syncDir_sl hM.toK hs (by omega) hsd) ?_
    clear hs
    rintro _ w ⟨rfl, hs⟩
    have hI3 := hI2 (hs.openD).1
    obtain ⟨e3, e4, e5, e6⟩ := hent.of_nil
    subst e3
    subst e4
    subst e5
    subst e6
    refine zA rfl (zA2 (v := zAo ad _) rfl) ?_
    refine zA4 ?_
    refine zA5 ?_
    refine zA5 (zA1 ?_)
    refine zA rfl (zA0 (v := zAo ad _) rfl) ?_
    refine zA rfl (zAy (ad := ad) rfl) ?_
    refine zA4 ?_
    refine zB rfl (rfl) ?_
    refine zAd ?_
    refine zA5 ?_
    refine zA5 (zA1 ?_)
    refine zA rfl (zA0 (v := .pointer (some _)) rfl) ?_
    refine zA rfl (zA0 (v := .int .i64 _) rfl) ?_
    refine zAa rfl en36 (entries_sl (mb := []) hM hI3 harm (by omega) (zCz _ _ _) hml hent hq (hs.arr [1, 2, 0] 3 (by decide))) ?_
    clear hs
    rintro _ w ⟨rfl, d2, h1, h2, h3, h4, hs⟩
    refine zA rfl (zA2 (v := .nilIface) rfl) ?_
    refine zA4 (zA5 (zA1 ?_))
    refine zA rfl (zA0 (v := .nilIface) rfl) ?_
    refine zA rfl (zBj rfl) ?_
    refine zA4 ?_
    refine zB rfl (rfl) ?_
    refine zAd ?_
    refine zA5 (zA1 ?_)
    refine zA rfl (zA0 (v := .pointer (some _)) rfl) ?_
    refine zA rfl (zA2 (v := .pointer (some _)) rfl) ?_
    refine zA rfl (zA2 (v := .nilIface) rfl) ?_
    refine zA4 ?_
    refine zAf ?_
    refine res2 (v := .pointer (some _)) (v2 := .nilIface) rfl rfl rfl ?_
    exact ⟨_, rfl, _, d2, rfl, h1, h2.trans hroom, by omega, by rw [updF_twice] at h4; exact h4, hs.closeL⟩
  ·
   refine zA1 ?_
   refine zA rfl (zA0 (v := .pointer (some _)) rfl) ?_
   refine zAa rfl en33 (snap_sl hM hs (hI.pread_some mem_sn hfn) ho hu hl (by omega)) ?_
   clear hs
   rintro _ w ⟨rfl, pw, hs⟩
   refine zA rfl (zA2 (v := .nilIface) rfl) ?_
   refine zA4 (zA5 (zA1 ?_))
   refine zA rfl (zA0 (v := .nilIface) rfl) ?_
   refine zA rfl (zBj rfl) ?_
   refine zA4 ?_
   refine zB rfl (rfl) ?_
   refine zAd ?_
   refine zA5 ?_
   obtain hfm | ⟨hfm, rfl⟩ := hf
   ·
    replace hll : dk.lenR mtN = (0, mb.length) := by rw [hll, hfm]; rfl
    refine zA1 ?_
    refine zA rfl (zA0 (v := .pointer (some _)) rfl) ?_
    refine zAa rfl en15 (len_sl hM.toK (hs.arr [2, 0, 1] 3 (by decide)) mtN hll) ?_
    clear hs
    rintro _ w ⟨rfl, hs⟩
    refine zA rfl (zA0 (v := .tuple _) rfl) ?_
    refine zA rfl (zAc (v := .int .i64 _) rfl rfl) ?_
    refine zA rfl (zAc (v := zAo ad _) rfl rfl) ?_
    refine zA rfl (zA2 (v := .int .i64 _) rfl) ?_
    refine zA rfl (zA2 (v := zAo ad _) rfl) ?_
    refine zA4 ?_
    refine zA5 ?_
    refine zA5 (zA1 ?_)
    refine zA rfl (zA0 (v := zAo ad _) rfl) ?_
    refine zA rfl (zA7 zCv rfl rfl (hK.cellW hs 107 (by decide) rfl)) ?_
    refine zA rfl (zEe (hK.atW hs) (by decide) (by decide) rfl rfl) ?_
    refine zA4 ?_
    refine zB rfl (rfl) ?_
    refine zAd ?_
    refine zA5 ?_
    refine zA5 (zA1 ?_)
    refine zA rfl (zA0 (v := zAo ad _) rfl) ?_
    refine zA rfl (zAy (ad := ad) rfl) ?_
    refine zA4 ?_
    refine zB rfl (rfl) ?_
    refine zAd ?_
    refine zA5 ?_
    refine zA5 (zA1 ?_)
    refine zA rfl (zA0 (v := .pointer (some _)) rfl) ?_
    refine zA rfl (zA0 (v := .int .i64 _) rfl) ?_
    refine zAa rfl en36 (entries_sl hM hI ha (by omega) hfm hml hent hq (hs.arr [1, 2, 0] 3 (by decide))) ?_
    clear hs
    rintro _ w ⟨rfl, d2, h1, h2, h3, h4, hs⟩
    refine zA rfl (zA2 (v := .nilIface) rfl) ?_
    refine zA4 (zA5 (zA1 ?_))
    refine zA rfl (zA0 (v := .nilIface) rfl) ?_
    refine zA rfl (zBj rfl) ?_
    refine zA4 ?_
    refine zB rfl (rfl) ?_
    refine zAd ?_
    refine zA5 (zA1 ?_)
    refine zA rfl (zA0 (v := .pointer (some _)) rfl) ?_
    refine zA rfl (zA2 (v := .pointer (some _)) rfl) ?_
    refine zA rfl (zA2 (v := .nilIface) rfl) ?_
    refine zA4 ?_
    refine zAf ?_
    refine res2 (v := .pointer (some _)) (v2 := .nilIface) rfl rfl rfl ?_
    exact ⟨_, rfl, _, d2, rfl, h1, h2, by omega, h4, hs.closeL⟩
   ·
    replace hll : dk.lenR mtN = (107, 0) := by rw [hll, hfm]; rfl
    obtain ⟨e1, e2, hcr, hsd, hroom, harm, hc1, hc2, hI2⟩ := hI.make ha zEr hfm mtN_valid
    refine zA1 ?_
    refine zA rfl (zA0 (v := .pointer (some _)) rfl) ?_
    refine zAa rfl en15 (len_sl hM.toK (hs.arr [2, 0, 1] 3 (by decide)) mtN hll) ?_
    clear hs
    rintro _ w ⟨rfl, hs⟩
    refine zA rfl (zA0 (v := .tuple _) rfl) ?_
    refine zA rfl (zAc (v := .int .i64 _) rfl rfl) ?_
    refine zA rfl (zAc (v := zAo ad _) rfl rfl) ?_
    refine zA rfl (zA2 (v := .int .i64 _) rfl) ?_
    refine zA rfl (zA2 (v := zAo ad _) rfl) ?_
    refine zA4 ?_
    refine zA5 ?_
    refine zA5 (zA1 ?_)
    refine zA rfl (zA0 (v := zAo ad _) rfl) ?_
    refine zA rfl (zA7 zCv rfl rfl (hK.cellW hs 107 (by decide) rfl)) ?_
    refine zA rfl (zEe (hK.atW hs) (by decide) (by decide) rfl rfl) ?_
    refine zA4 ?_
    refine zB9 rfl (rfl) ?_
    refine zA5 (zA1 ?_)
    refine zA rfl (zA0 (v := .pointer (some _)) rfl) ?_
    refine zAa rfl en34 (create_sl hM.toK hs (by omega) mtN hcr) ?_
    clear hs
    rintro _ w ⟨rfl, hs⟩
    refine zA rfl (zA2 (v := zAo ad _) rfl) ?_
    refine zA4 (zA5 (zA1 ?_))
    refine zA rfl (zA0 (v := zAo ad _) rfl) ?_
    refine zA rfl (zD (ad := ad) rfl) ?_
    refine zA4 ?_
    refine zB9 rfl (rfl) ?_
    refine zA1 ?_
    refine zA rfl (zA0 (v := .pointer (some _)) rfl) ?_
    refine zAa rfl en35 (syncDir_sl hM.toK hs (by omega) hsd) ?_
    clear hs
    rintro _ w ⟨rfl, hs⟩
    have hI3 := hI2 (hs.openD).1
    obtain ⟨e3, e4, e5, e6⟩ := hent.of_nil
    subst e3
    subst e4
    subst e5
    subst e6
    refine zA rfl (zA2 (v := zAo ad _) rfl) ?_
    refine zA4 ?_
    refine zA5 ?_
    refine zA5 (zA1 ?_)
    refine zA rfl (zA0 (v := zAo ad _) rfl) ?_
    refine zA rfl (zAy (ad := ad) rfl) ?_
    refine zA4 ?_
    refine zB rfl (rfl) ?_
    refine zAd ?_
    refine zA5 ?_
    refine zA5 (zA1 ?_)
    refine zA rfl (zA0 (v := .pointer (some _)) rfl) ?_
    refine zA rfl (zA0 (v := .int .i64 _) rfl) ?_
    refine zAa rfl en36 (entries_sl (mb := []) hM hI3 harm (by omega) (zCz _ _ _) hml hent hq (hs.arr [1, 2, 0] 3 (by decide))) ?_
    clear hs
    rintro _ w ⟨rfl, d2, h1, h2, h3, h4, hs⟩
    refine zA rfl (zA2 (v := .nilIface) rfl) ?_
    refine zA4 (zA5 (zA1 ?_))
    refine zA rfl (zA0 (v := .nilIface) rfl) ?_
    refine zA rfl (zBj rfl) ?_
    refine zA4 ?_
    refine zB rfl (rfl) ?_
    refine zAd ?_
    refine zA5 (zA1 ?_)
    refine zA rfl (zA0 (v := .pointer (some _)) rfl) ?_
    refine zA rfl (zA2 (v := .pointer (some _)) rfl) ?_
    refine zA rfl (zA2 (v := .nilIface) rfl) ?_
    refine zA4 ?_
    refine zAf ?_
    refine res2 (v := .pointer (some _)) (v2 := .nilIface) rfl rfl rfl ?_
    exact ⟨_, rfl, _, d2, rfl, h1, h2.trans hroom, by omega, by rw [updF_twice] at h4; exact h4, hs.closeL⟩
/-! ### a snapshot -/
def SnapOut (f : ByteArray → Option (List UInt8)) (dk : Dk) (q : Nat) (V : Vw) (k : Nat) (dk2 : Dk) : Prop :=
  dk2.room = dk.room ∧ dk2.calls ≤ dk.calls + 7 ∧ (k = 0 ∧ dk2.down = false ∧ (dk.armed = 0 → dk2.armed = 0) ∧ LgI (zDt (zDt f snN (zBm (snapB q V))) mtN []) dk2 ∨
    k = 110 ∧ dk2.down = true ∧ dk.armed ≠ 0 ∧ ∀ picks, LgI f (dk2.crash picks) ∨ LgI (zDt f snN (zBm (snapB q V))) (dk2.crash picks))
theorem vw_len (ho : V.ok) (h : V.length ≤ 32) : (vwB V).length ≤ 192494 := by
  have h1 := items_len ho (zE0 (zAg V))
  have h2 := zCc V.length
  have h3 : (vwB V).length = (vwBody V).length + 4 := zBs _
  rw [sortI_len, zAg, List.length_map] at h1
  rw [h3]
  simp only [vwBody, List.length_append, zAg] at h1 ⊢; omega
set_option maxHeartbeats 1000000 in
theorem snapM_sl (hM : ErrM ad g) (hs : Mem g w (LogC p d ev V q c n :: zBv d dk :: L)) (hI : LgI f dk) (hf : f mtN = some mb) (hcl : dk.calls < 800000) (hr : 1000000 ≤ dk.room) (hu : V.sums) (hl : V.length ≤ 32) (hq : q < 4611686018427387904) :
    Calls Tryz.prog 23 #[.pointer (some ⟨p, 0, none⟩)] w (Ret fun v w' => ∃ k dk2, v = zAo ad k ∧ SnapOut f dk q V k dk2 ∧ Mem g w' (LogC p d ev V q (if k = 0 then 0 else c) (if k = 0 then 0 else n) :: zBv d dk2 :: L)) := by
  have hK := hM.toK
  obtain ⟨pv, hs⟩ := hs.openL
  have ho : V.ok := ((hs.arr [1, 0, 2] 3 (by decide)).openQ).1
  have hvb := vw_len ho hl
  have hql := zCc q
  have hsl : (snapB q V).length = (zAz q).length + (vwB V).length := List.length_append
  obtain ⟨kw, dw, hw, hwr, hwc, hwcase⟩ := hI.write (b := snapB q V) mem_sn lgN_new snN_valid snN_valid2 (by omega) (by show 2 * 2 * 200000 + 200000 ≤ dk.room; omega)
  refine zAm Tryz.func23 rfl rfl ?_
  skip
  refine zA5 (zA1 ?_)
  refine zA rfl (zA2 (v := .nilIface) rfl) ?_
  refine zA4 ?_
  refine zA5 ?_
  refine zA5 ?_
  refine zAw zBt (hs.drop 2) ?_
  intro w tr hK
  replace hs := tr _ hs
  clear tr
  refine zA6 0 rfl rfl (fun w hs => zA0 (v := .pointer (some _)) rfl) hK ?_
  refine zA6 1 rfl rfl (fun w hs => zA8 rfl) hK ?_
  refine zA6 2 rfl rfl (fun w hs => zA3 (o' := 0) zD0 rfl sz25 rfl rfl rfl) hK ?_
  refine zA6 3 rfl rfl (fun w hs => zA7 uz25 rfl rfl (hs.cellAt 0 rfl rfl)) hK ?_
  refine zA6 4 rfl rfl (fun w hs => zA0 (v := .pointer (some _)) rfl) hK ?_
  refine zA6 5 rfl rfl (fun w hs => zA8 rfl) hK ?_
  refine zA6 6 rfl rfl (fun w hs => zA3 (o' := 3) zD0 rfl sz2 rfl rfl rfl) hK ?_
  refine zA6 7 rfl rfl (fun w hs => zA7 uz2 rfl rfl (hs.cellAt 0 rfl rfl)) hK ?_
  refine zA6 8 rfl rfl (fun w hs => zAn uz2 zBw rfl (c := ((q : Nat) : Int)) (by rw [zB5]; omega)) hK ?_
  refine zA6 10 rfl rfl (fun w hs => zA0 (v := .pointer (some _)) rfl) hK ?_
  refine zA6 11 rfl rfl (fun w hs => zA8 rfl) hK ?_
  refine zA6 12 rfl rfl (fun w hs => zA3 (o' := 2) zD0 rfl sz33 rfl rfl rfl) hK ?_
  refine zA6 13 rfl rfl (fun w hs => zA7 uz33 rfl rfl (hs.cellAt 0 rfl rfl)) hK ?_
  refine zAb [9] ?_
  refine ⟨⟨_, rfl, ?_⟩, trivial⟩
  refine zAa rfl en52 (zDk hs (lb := []) (n := q) Rd.nil rfl (by decide) (by omega)) ?_
  clear hs
  rintro _ w ⟨a14, c14, rfl, hs⟩
  rw [List.nil_append] at hs ⊢
  clear hK
  have hK := hs.tail.drop 2
  refine zA4 ⟨hK, ?_⟩
  refine zAb [14] ?_
  refine ⟨⟨_, rfl, ?_⟩, trivial⟩
  refine zAa rfl en53 (bytesq_sl hM.toV (hs.arr [2, 0, 1, 3] 4 (by decide)) (by omega) hu) ?_
  clear hs
  rintro _ w ⟨a19, c19, rfl, hs⟩
  clear hK
  have hK := hs.arr [3, 1] 5 (by decide)
  refine zA4 ⟨hK, ?_⟩
  refine zAb [15] ?_
  refine ⟨⟨_, rfl, ?_⟩, trivial⟩
  refine zCf hs rfl 2 rfl zC2 in5 rfl rfl rfl (zC5 (P := Tryz.prog) zC2 ((Rd.own (l := zAl (vwB V)) 0 rfl).seq hs) (zBn _)) (by simp only [zAr]; omega) (by simp only [zAr]; omega) ?_
  clear hs
  intro a20 c20 w hs
  simp only [List.set_cons_succ, List.set_cons_zero] at hs
  have e1 : zAl (zAz q) ++ zAl (vwB V) = zAl (snapB q V) := (zC8 _ _).symm
  have e2 : (zAl (zAz q)).length + (zAl (vwB V)).length = (snapB q V).length := by simp only [zAr, hsl]
  rw [e2] at hs ⊢
  rw [e1] at hs
  clear hK
  have hK := hs.arr [3, 1] 5 (by decide)
  refine zA4 ⟨hK, ?_⟩
  refine zAb [16] ?_
  refine ⟨⟨_, rfl, ?_⟩, trivial⟩
  refine zAa rfl en51 (write_sl hM.toK (by omega) (hs.arr [4, 0, 1, 2, 3] 5 (by decide)) snN (by decide) (Rd.own (l := zAl (snapB q V)) 2 rfl) rfl (by omega) hw) ?_
  clear hs
  rintro _ w ⟨rfl, hs⟩
  clear hK
  have hK := hs.arr [4, 2] 5 (by decide)
  refine zA4 ⟨hK, ?_⟩
  refine zA6 17 rfl rfl (fun w hs => zA2 (v := zAo ad _) rfl) hK ?_
  refine zAs (by kernel_rfl) ?_
  clear hK
  refine zA5 ?_
  obtain ⟨rfl, hup, har, hI2⟩ | ⟨rfl, hdn, har, hI2⟩ := hwcase
  ·
   refine zA1 ?_
   refine zA rfl (zA0 (v := zAo ad _) rfl) ?_
   refine zA rfl (zAy (ad := ad) rfl) ?_
   refine zA4 ?_
   refine zB rfl (rfl) ?_
   refine zAd ?_
   refine zA5 ?_
   refine zA5 ?_
   have hI3 := hI2 (hs.openD).1
   obtain ⟨kc, dc, hcut, hcr, hcc, hccase⟩ := hI3.cut zEr (v := mb) (by rw [updF_other _ _ mt_sn]; exact hf) (m := 0) (Nat.zero_le _)
   refine zA1 ?_
   refine zA rfl (zA0 (v := .pointer (some _)) rfl) ?_
   refine zA rfl (zA8 rfl) ?_
   refine zA rfl (zA3 (o' := 0) zD0 rfl sz25 rfl rfl rfl) ?_
   refine zA rfl (zA7 uz25 rfl rfl (hs.cellAt 4 rfl rfl)) ?_
   refine zAa rfl en18 (cut_sl hM.toK hs (by omega) mtN (m := 0) (inI (by decide) (by decide)) hcut) ?_
   clear hs
   rintro _ w ⟨rfl, hs⟩
   refine zA rfl (zA2 (v := zAo ad _) rfl) ?_
   refine zA4 ?_
   refine zA5 ?_
   obtain ⟨rfl, hup2, har2, hI4⟩ | ⟨rfl, hdn2, har2, hI4⟩ := hccase
   ·
    refine zA1 ?_
    refine zA rfl (zA0 (v := zAo ad _) rfl) ?_
    refine zA rfl (zAy (ad := ad) rfl) ?_
    refine zA4 ?_
    refine zB rfl (rfl) ?_
    refine zAd ?_
    refine zA5 (zA1 ?_)
    refine zA rfl (zA0 (v := .pointer (some _)) rfl) ?_
    refine zA rfl (zA0 (v := .pointer (some _)) rfl) ?_
    refine zA rfl (zA8 rfl) ?_
    refine zA rfl (zA3 (o' := 4) zD0 rfl sz3 rfl rfl rfl) ?_
    refine zAv (v := .int .i64 _) hs 4 rfl sz3 rfl rfl rfl rfl ?_
    clear hs
    intro w hs
    try simp only [List.set_cons_succ, List.set_cons_zero] at hs
    refine zA rfl (zA8 rfl) ?_
    refine zA rfl (zA3 (o' := 5) zD0 rfl sz3 rfl rfl rfl) ?_
    refine zAv (v := .int .i64 _) hs 4 rfl sz3 rfl rfl rfl rfl ?_
    clear hs
    intro w hs
    try simp only [List.set_cons_succ, List.set_cons_zero] at hs
    refine zA4 (zA5 (zA1 ?_))
    refine zA rfl (zA2 (v := .nilIface) rfl) ?_
    refine zA4 ?_
    refine zAf ?_
    refine zBg (v := .nilIface) rfl rfl ?_
    exact ⟨_, rfl, 0, dc, (zB2 ad).symm, ⟨hcr.trans hwr, by omega, .inl ⟨rfl, hup2, fun e => har2 (har e), hI4 (hs.openD).1⟩⟩, Mem.closeL (hs.arr [4, 2, 0] 5 (by decide))⟩
   ·
    refine zA1 ?_
    refine zA rfl (zA0 (v := zAo ad _) rfl) ?_
    refine zA rfl (zAy (ad := ad) rfl) ?_
    refine zA4 ?_
    refine zB9 rfl (rfl) ?_
    refine zA5 (zA1 ?_)
    refine zA rfl (zA0 (v := zAo ad _) rfl) ?_
    refine zA rfl (zA2 (v := zAo ad _) rfl) ?_
    refine zA4 ?_
    refine zAf ?_
    refine zBg (v := zAo ad _) rfl rfl ?_
    exact ⟨_, rfl, 110, dc, rfl, ⟨hcr.trans hwr, by omega, .inr ⟨rfl, hdn2, fun e => har2 (har e), fun picks => .inr (hI4 (hs.openD).1 picks)⟩⟩, Mem.closeL (hs.arr [4, 2, 0] 5 (by decide))⟩
  ·
   refine zA1 ?_
   refine zA rfl (zA0 (v := zAo ad _) rfl) ?_
   refine zA rfl (zAy (ad := ad) rfl) ?_
   refine zA4 ?_
   refine zB9 rfl (rfl) ?_
   refine zA5 (zA1 ?_)
   refine zA rfl (zA0 (v := zAo ad _) rfl) ?_
   refine zA rfl (zA2 (v := zAo ad _) rfl) ?_
   refine zA4 ?_
   refine zAf ?_
   refine zBg (v := zAo ad _) rfl rfl ?_
   exact ⟨_, rfl, 110, dw, rfl, ⟨hwr, by omega, .inr ⟨rfl, hdn, har, hI2 (hs.openD).1⟩⟩, Mem.closeL (hs.arr [4, 2, 0] 5 (by decide))⟩
end Go.Proofs.YtdkgdjnbpjjfmaaGreatDoor
namespace Go.Proofs.YtdkgdjnbpjjfmaaGreatDoor
set_option linter.all false
open Go.RowKit
attribute [local irreducible] zAo eV
variable {g w : World} {L M : List HP} {ad : Nat → Addr} {p d pv ev : Nat} {dk : Dk} {f : ByteArray → Option (List UInt8)} {V U : Vw} {q r c n : Nat} {b mb : List UInt8}

/-- An entry that may not come. -/
theorem appBad_sl (hM : ErrM ad g) (hs : Mem g w (LogC p d ev V q c n :: zBv d dk :: L)) {k : Int} {x : Mf} {e o : SA} (hm : MfR g L x e o) (hob : x.obs.length ≤ 1000000) (hap : (V.apply k x).1.1 ≠ 0) : Calls Tryz.prog 13 #[.pointer (some ⟨p, 0, none⟩), .agg (.int .i64 k :: mfL x e o).toArray] w (Ret fun v w' => ∃ eb, v = flV ad (V.apply k x).1 eb ∧ Mem g w' (flC ad (V.apply k x).1 eb :: LogC p d ev V q c n :: zBv d dk :: L)) := by
  obtain ⟨pv, hs⟩ := hs.openL
  refine zAm Tryz.func13 rfl rfl ?_
  skip
  refine zA5 (zA1 ?_)
  refine zCd (v := .agg _) hs rfl rfl ?_
  clear hs
  intro b3 w hs
  try simp only [List.set_cons_succ, List.set_cons_zero] at hs
  refine zA rfl (zA2 (v := .nilIface) rfl) ?_
  refine zA4 (zA5 (zA1 ?_))
  refine zA rfl (zA0 (v := .pointer (some _)) rfl) ?_
  refine zA rfl (zA8 rfl) ?_
  refine zA rfl (zA3 (o' := 2) zD0 rfl sz33 rfl rfl rfl) ?_
  refine zA rfl (zA7 uz33 rfl rfl (hs.cellAt 1 rfl rfl)) ?_
  refine zAa rfl en16 (cloneq_sl (hs.arr [2, 0, 1, 3] 4 (by decide))) ?_
  clear hs
  rintro _ w ⟨u, rfl, hs⟩
  refine zA rfl (zA2 (v := .pointer (some _)) rfl) ?_
  refine zA4 ?_
  refine zA5 ?_
  refine zA5 (zA1 ?_)
  refine zA rfl (zA0 (v := .pointer (some _)) rfl) ?_
  refine zA rfl (zBc hs 2 rfl uz41 sz41 rfl) ?_
  refine zAa rfl en14 (applyq_sl hM.toV hs k hm.cons.cons.cons.cons hob) ?_
  clear hs
  rintro _ w ⟨eb, rfl, hs⟩
  refine zA rfl (zA2 (v := flV ad _ _) rfl) ?_
  refine zA4 (zA5 (zA1 ?_))
  refine zA rfl (zA0 (v := flV ad _ _) rfl) ?_
  refine zA rfl (run_neF (.inr hap) rfl) ?_
  refine zA4 ?_
  refine zB9 rfl ((by rw [decide_eq_false hap]; rfl)) ?_
  refine zA5 (zA1 ?_)
  refine zA rfl (zA0 (v := flV ad _ _) rfl) ?_
  refine zA rfl (zA2 (v := flV ad _ _) rfl) ?_
  refine zA4 ?_
  refine zAf ?_
  refine zBg (v := flV ad _ _) rfl rfl ?_
  exact ⟨_, rfl, eb, rfl, (Mem.closeL (hs.arr [4, 2, 0, 5] 6 (by decide))).arr [1, 0, 2] 3 (by decide)⟩
/-- What an Append of an entry that may come leaves. -/
def AppOut (f : ByteArray → Option (List UInt8)) (dk : Dk) (ev : Nat) (V1 : Vw) (q c : Nat) (mb fr : List UInt8) (k : Nat) (dk2 : Dk) (V' : Vw) (q' c' n' : Nat) : Prop :=
  dk2.room = dk.room ∧ dk2.calls ≤ dk.calls + 9 ∧
  (k = 0 ∧ dk2.down = false ∧ (dk.armed = 0 → dk2.armed = 0) ∧ V' = V1 ∧ q' = q + 1 ∧ (c + 1 < ev ∧ c' = c + 1 ∧ n' = mb.length + fr.length ∧ LgI (zDt f mtN (mb ++ fr)) dk2 ∨ ev ≤ c + 1 ∧ c' = 0 ∧ n' = 0 ∧ LgI (zDt (zDt (zDt f mtN (mb ++ fr)) snN (zBm (snapB (q + 1) V1))) mtN []) dk2) ∨
   k = 0 ∧ dk2.down = true ∧ dk.armed ≠ 0 ∧ (∀ picks, LgI (zDt f mtN (mb ++ fr)) (dk2.crash picks) ∨ LgI (zDt (zDt f mtN (mb ++ fr)) snN (zBm (snapB (q + 1) V1))) (dk2.crash picks)) ∨
   k = 110 ∧ dk2.down = true ∧ dk.armed ≠ 0 ∧ ∀ picks, ∃ j, LgI (zDt f mtN (mb ++ fr.take j)) (dk2.crash picks))
set_option maxHeartbeats 2000000 in
theorem appOk_sl (hM : ErrM ad g) (hs : Mem g w (LogC p d ev V q c n :: zBv d dk :: L)) (hI : LgI f dk) (hf : f mtN = some mb) (hn : n = mb.length) (hcl : dk.calls < 700000) (hr : 1000000 ≤ dk.room) (hu : V.sums) (hl : V.length ≤ 31) (hq : q < 1000000) (hc : c ≤ 1000000) (hb : mb.length + 6021 ≤ 200000) {k : Int} {x : Mf} {e o : SA} (hm : MfR g L x e o) (hob : x.obs.length ≤ 1000000) (hsu : ∀ o ∈ x.obs, o.2.2 < 4294967296) (hap : (V.apply k x).1 = (0, none)) :
    Calls Tryz.prog 13 #[.pointer (some ⟨p, 0, none⟩), .agg (.int .i64 k :: mfL x e o).toArray] w (Ret fun v w' => ∃ kr dk2 V' q' c' n', v = zAo ad kr ∧ AppOut f dk ev (V.apply k x).2 q c mb (frame (q + 1) (k, x)) kr dk2 V' q' c' n' ∧ Mem g w' (LogC p d ev V' q' c' n' :: zBv d dk2 :: L)) := by
  subst hn
  have hK := hM.toK
  obtain ⟨pv, hs⟩ := hs.openL
  have hen := Vw.apply_en hap
  have hok : EnOk (k, x) := ⟨hen.1, hen.2.1, hen.2.2, hsu⟩
  have hfl := frame_le (q := q + 1) hok
  obtain ⟨fr, hfr⟩ : ∃ fr, fr = frame (q + 1) (k, x) := ⟨_, rfl⟩
  have hlen := V.apply_len k x
  have hsu1 := Vw.apply_sums hu (k := k) hsu
  obtain ⟨V1, hV1⟩ : ∃ V1, V1 = (V.apply k x).2 := ⟨_, rfl⟩
  rw [← hfr] at hfl
  rw [← hV1] at hlen hsu1
  obtain ⟨ka, da, hap1, har, hac, hacase⟩ := hI.grow zEr hf (x := fr) (by omega) (by show 2 * 2 * 200000 + 200000 ≤ dk.room; omega)
  refine zAm Tryz.func13 rfl rfl ?_
  skip
  refine zA5 (zA1 ?_)
  refine zCd (v := .agg _) hs rfl rfl ?_
  clear hs
  intro b3 w hs
  try simp only [List.set_cons_succ, List.set_cons_zero] at hs
  refine zA rfl (zA2 (v := .nilIface) rfl) ?_
  refine zA4 (zA5 (zA1 ?_))
  refine zA rfl (zA0 (v := .pointer (some _)) rfl) ?_
  refine zA rfl (zA8 rfl) ?_
  refine zA rfl (zA3 (o' := 2) zD0 rfl sz33 rfl rfl rfl) ?_
  refine zA rfl (zA7 uz33 rfl rfl (hs.cellAt 1 rfl rfl)) ?_
  refine zAa rfl en16 (cloneq_sl (hs.arr [2, 0, 1, 3] 4 (by decide))) ?_
  clear hs
  rintro _ w ⟨u, rfl, hs⟩
  refine zA rfl (zA2 (v := .pointer (some _)) rfl) ?_
  refine zA4 ?_
  refine zA5 ?_
  refine zA5 (zA1 ?_)
  refine zA rfl (zA0 (v := .pointer (some _)) rfl) ?_
  refine zA rfl (zBc hs 2 rfl uz41 sz41 rfl) ?_
  refine zAa rfl en14 (applyq_sl hM.toV hs k hm.cons.cons.cons.cons hob) ?_
  clear hs
  rintro _ w ⟨eb, rfl, hs⟩
  rw [hap] at hs ⊢
  replace hs := hs.tail
  rw [← hV1] at hs ⊢
  refine zA rfl (zA2 (v := zAo ad _) rfl) ?_
  refine zA4 (zA5 (zA1 ?_))
  refine zA rfl (zA0 (v := zAo ad _) rfl) ?_
  refine zA rfl (zAy (ad := ad) rfl) ?_
  refine zA4 ?_
  refine zB rfl (rfl) ?_
  refine zAd ?_
  refine zA5 ?_
  refine zA5 (zA1 ?_)
  refine zA rfl (zA0 (v := .pointer (some _)) rfl) ?_
  refine zA rfl (zA8 rfl) ?_
  refine zA rfl (zA3 (o' := 3) zD0 rfl sz2 rfl rfl rfl) ?_
  refine zA rfl (zA7 uz2 rfl rfl (hs.cellAt 3 rfl rfl)) ?_
  refine zA rfl (zBq rfl rfl) ?_
  refine zA4 ?_
  refine zB rfl (decide_eq_false (by omega)) ?_
  refine zAd ?_
  refine zA5 ?_
  refine zAw zBt hs ?_
  intro w tr hK
  replace hs := tr _ hs
  clear tr
  refine zA6 0 rfl rfl (fun w hs => zA0 (v := .pointer (some _)) rfl) hK ?_
  refine zA6 1 rfl rfl (fun w hs => zA8 rfl) hK ?_
  refine zA6 2 rfl rfl (fun w hs => zA3 (o' := 3) zD0 rfl sz2 rfl rfl rfl) hK ?_
  refine zA6 3 rfl rfl (fun w hs => zA7 uz2 rfl rfl (hs.cellAt 3 rfl rfl)) hK ?_
  refine zA6 4 rfl rfl (fun w hs => zAp rfl rfl (c := ((q + 1 : Nat) : Int)) (by omega) (inI (by omega) (by omega))) hK ?_
  refine zA6 5 rfl rfl (fun w hs => zBc hs 2 rfl uz41 sz41 rfl) hK ?_
  refine zAb [6] ?_
  refine ⟨⟨_, rfl, ?_⟩, trivial⟩
  refine zAa rfl en38 (enBytes_sl hM.toV hs (q := q + 1) (by omega) hm.cons.cons.cons.cons.cons hok) ?_
  clear hs
  rintro _ w ⟨s33, rfl, hs⟩
  rw [← hfr] at hs ⊢
  clear hK
  have hK := hs.tail
  refine zA4 ⟨hK, ?_⟩
  refine zA6 7 rfl rfl (fun w hs => zA0 (v := .tuple _) rfl) hK ?_
  refine zA6 8 rfl rfl (fun w hs => zAc (v := .slice _ _ _) rfl rfl) hK ?_
  refine zA6 9 rfl rfl (fun w hs => zAc (v := .nilIface) rfl rfl) hK ?_
  refine zA6 10 rfl rfl (fun w hs => zA2 (v := .slice _ _ _) rfl) hK ?_
  refine zA6 11 rfl rfl (fun w hs => zA2 (v := .nilIface) rfl) hK ?_
  refine zAs (by kernel_rfl) ?_
  clear hK
  refine zA5 ?_
  refine zA5 (zA1 ?_)
  refine zA rfl (zA0 (v := .nilIface) rfl) ?_
  refine zA rfl (zBj rfl) ?_
  refine zA4 ?_
  refine zB rfl (rfl) ?_
  refine zAd ?_
  refine zA5 (zA1 ?_)
  refine zA rfl (zA0 (v := .pointer (some _)) rfl) ?_
  refine zA rfl (zA8 rfl) ?_
  refine zA rfl (zA3 (o' := 0) zD0 rfl sz25 rfl rfl rfl) ?_
  refine zA rfl (zA7 uz25 rfl rfl (hs.cellAt 4 rfl rfl)) ?_
  refine zA rfl (zA0 (v := .slice _ _ _) rfl) ?_
  refine zAa rfl en19 (append_sl hM.toK (hs.arr [5, 0, 1, 2, 3, 4] 6 (by decide)) (by omega) mtN (x := fr) (Rd.own 0 rfl) rfl (by omega) hap1) ?_
  clear hs
  rintro _ w ⟨rfl, hs⟩
  refine zA rfl (zA2 (v := zAo ad _) rfl) ?_
  refine zA4 ?_
  refine zA5 ?_
  refine zA5 ?_
  obtain ⟨rfl, hdn, hne, hcr⟩ | ⟨rfl, hup, k2, d2, hsy, hsr, hsc, hscase⟩ := hacase
  ·
   refine zA1 ?_
   refine zA rfl (zA0 (v := zAo ad _) rfl) ?_
   refine zA rfl (zD (ad := ad) rfl) ?_
   refine zA4 ?_
   refine zB rfl (rfl) ?_
   refine zAd ?_
   refine zA5 ?_
   refine zA5 (zA1 ?_)
   refine zA rfl (zA0 (v := zAo ad _) rfl) ?_
   refine zA rfl (zAy (ad := ad) rfl) ?_
   refine zA4 ?_
   refine zB9 rfl (rfl) ?_
   refine zA5 (zA1 ?_)
   refine zA rfl (zA0 (v := zAo ad _) rfl) ?_
   refine zA rfl (zA2 (v := zAo ad _) rfl) ?_
   refine zA4 ?_
   refine zAf ?_
   refine zBg (v := zAo ad _) rfl rfl ?_
   exact ⟨_, rfl, 110, da, V, q, c, mb.length, rfl, ⟨har, by omega, .inr (.inr ⟨rfl, hdn, hne, fun picks => ⟨0, by rw [List.take_zero, List.append_nil, updF_self hf]; exact hcr (hs.openD).1 picks⟩⟩)⟩, Mem.closeL (hs.arr [5, 3, 0] 6 (by decide))⟩
  ·
   refine zA1 ?_
   refine zA rfl (zA0 (v := zAo ad _) rfl) ?_
   refine zA rfl (zD (ad := ad) rfl) ?_
   refine zA4 ?_
   refine zB9 rfl (rfl) ?_
   refine zA5 (zA1 ?_)
   refine zA rfl (zA0 (v := .pointer (some _)) rfl) ?_
   refine zA rfl (zA8 rfl) ?_
   refine zA rfl (zA3 (o' := 0) zD0 rfl sz25 rfl rfl rfl) ?_
   refine zA rfl (zA7 uz25 rfl rfl (hs.cellAt 5 rfl rfl)) ?_
   refine zAa rfl en39 (sync_sl hM.toK hs (by omega) mtN hsy) ?_
   clear hs
   rintro _ w ⟨rfl, hs⟩
   refine zA rfl (zA2 (v := zAo ad _) rfl) ?_
   refine zA4 ?_
   refine zA5 ?_
   obtain ⟨rfl, hup2, har2, hI2⟩ | ⟨rfl, hdn2, hne2, hcr2⟩ := hscase
   ·
    refine zA1 ?_
    refine zA rfl (zA0 (v := zAo ad _) rfl) ?_
    refine zA rfl (zAy (ad := ad) rfl) ?_
    refine zA4 ?_
    refine zB rfl (rfl) ?_
    refine zAd ?_
    refine zA5 ?_
    refine zA5 (zA1 ?_)
    refine zA rfl (zA0 (v := zAo ad _) rfl) ?_
    refine zA rfl (zAy (ad := ad) rfl) ?_
    refine zA4 ?_
    refine zB rfl (rfl) ?_
    refine zAd ?_
    refine zA5 ?_
    have hI3 := hI2 (hs.openD).1
    refine zAw zBt (hs.drop 5) ?_
    intro w tr hK
    replace hs := tr _ hs
    clear tr
    refine zA6 0 rfl rfl (fun w hs => zA0 (v := .pointer (some _)) rfl) hK ?_
    refine zA6 1 rfl rfl (fun w hs => zA0 (v := .pointer (some _)) rfl) hK ?_
    refine zA6 2 rfl rfl (fun w hs => zA0 (v := .pointer (some _)) rfl) hK ?_
    refine zA6 3 rfl rfl (fun w hs => zA0 (v := .pointer (some _)) rfl) hK ?_
    refine zA6 4 rfl rfl (fun w hs => zA0 (v := .pointer (some _)) rfl) hK ?_
    refine zA6 5 rfl rfl (fun w hs => zA8 rfl) hK ?_
    refine zA6 6 rfl rfl (fun w hs => zA3 (o' := 3) zD0 rfl sz2 rfl rfl rfl) hK ?_
    refine zA6 9 rfl rfl (fun w hs => zA0 (v := .pointer (some _)) rfl) hK ?_
    refine zA6 10 rfl rfl (fun w hs => zA8 rfl) hK ?_
    refine zA6 11 rfl rfl (fun w hs => zA3 (o' := 5) zD0 rfl sz3 rfl rfl rfl) hK ?_
    refine zA6 13 rfl rfl (fun w hs => zA0 (v := .slice _ _ _) rfl) hK ?_
    refine zA6 14 rfl rfl (fun w hs => zAx zC2 rfl) hK ?_
    refine zAb [7, 12] ?_
    refine ⟨⟨_, rfl, ?_⟩, ⟨_, rfl, ?_⟩, trivial⟩
    ·
     refine zA rfl (zA7 uz2 rfl rfl (hs.cellAt 5 rfl rfl)) ?_
     clear hK
     have hK := hs.drop 5
     refine zA4 ⟨hK, ?_⟩
     refine zA6 8 rfl rfl (fun w hs => zAp rfl rfl (c := ((q + 1 : Nat) : Int)) (by omega) (inI (by omega) (by omega))) hK ?_
     refine zAb [12] ?_
     refine ⟨⟨_, rfl, ?_⟩, trivial⟩
     refine zA rfl (zA7 uz3 rfl rfl (hs.cellAt 5 rfl rfl)) ?_
     clear hK
     have hK := hs.drop 5
     refine zA4 ⟨hK, ?_⟩
     refine zA6 15 rfl rfl (fun w hs => zAp rfl rfl (c := ((mb.length + fr.length : Nat) : Int)) (by omega) (inI (by omega) (by omega))) hK ?_
     refine zA6 16 rfl rfl (fun w hs => zA8 rfl) hK ?_
     refine zA6 17 rfl rfl (fun w hs => zA3 (o' := 2) zD0 rfl sz33 rfl rfl rfl) hK ?_
     refine zAb [18] ?_
     refine ⟨⟨_, rfl, ?_⟩, trivial⟩
     refine zAv (v := .pointer (some _)) hs 5 rfl sz33 rfl rfl rfl rfl ?_
     clear hs
     intro w hs
     try simp only [List.set_cons_succ, List.set_cons_zero] at hs
     clear hK
     have hK := hs.drop 5
     refine zA4 ⟨hK, ?_⟩
     refine zA6 19 rfl rfl (fun w hs => zA8 rfl) hK ?_
     refine zA6 20 rfl rfl (fun w hs => zA3 (o' := 3) zD0 rfl sz2 rfl rfl rfl) hK ?_
     refine zAb [21] ?_
     refine ⟨⟨_, rfl, ?_⟩, trivial⟩
     refine zAv (v := .int .i64 _) hs 5 rfl sz2 rfl rfl rfl rfl ?_
     clear hs
     intro w hs
     try simp only [List.set_cons_succ, List.set_cons_zero] at hs
     clear hK
     have hK := hs.drop 5
     refine zA4 ⟨hK, ?_⟩
     refine zA6 22 rfl rfl (fun w hs => zA8 rfl) hK ?_
     refine zA6 23 rfl rfl (fun w hs => zA3 (o' := 5) zD0 rfl sz3 rfl rfl rfl) hK ?_
     refine zAb [24] ?_
     refine ⟨⟨_, rfl, ?_⟩, trivial⟩
     refine zAv (v := .int .i64 _) hs 5 rfl sz3 rfl rfl rfl rfl ?_
     clear hs
     intro w hs
     try simp only [List.set_cons_succ, List.set_cons_zero] at hs
     clear hK
     have hK := hs.drop 5
     refine zA4 ⟨hK, ?_⟩
     refine zAs (by kernel_rfl) ?_
     clear hK
     refine zA5 ?_
     refine zA5 (zA1 ?_)
     refine zA rfl (zA0 (v := .pointer (some _)) rfl) ?_
     refine zA rfl (zA8 rfl) ?_
     refine zA rfl (zA3 (o' := 4) zD0 rfl sz3 rfl rfl rfl) ?_
     refine zA rfl (zA7 uz3 rfl rfl (hs.cellAt 5 rfl rfl)) ?_
     refine zA rfl (zAp rfl rfl (c := ((c + 1 : Nat) : Int)) (by omega) (inI (by omega) (by omega))) ?_
     refine zA rfl (zA8 rfl) ?_
     refine zA rfl (zA3 (o' := 4) zD0 rfl sz3 rfl rfl rfl) ?_
     refine zAv (v := .int .i64 _) hs 5 rfl sz3 rfl rfl rfl rfl ?_
     clear hs
     intro w hs
     try simp only [List.set_cons_succ, List.set_cons_zero] at hs
     refine zA4 ?_
     refine zA5 ?_
     refine zAw zBt hs ?_
     intro w tr hK
     replace hs := tr _ hs
     clear tr
     refine zA6 0 rfl rfl (fun w hs => zA0 (v := .pointer (some _)) rfl) hK ?_
     refine zA6 1 rfl rfl (fun w hs => zA8 rfl) hK ?_
     refine zA6 2 rfl rfl (fun w hs => zA3 (o' := 4) zD0 rfl sz3 rfl rfl rfl) hK ?_
     refine zA6 3 rfl rfl (fun w hs => zA7 uz3 rfl rfl (hs.cellAt 5 rfl rfl)) hK ?_
     refine zA6 4 rfl rfl (fun w hs => zA0 (v := .pointer (some _)) rfl) hK ?_
     refine zA6 5 rfl rfl (fun w hs => zA8 rfl) hK ?_
     refine zA6 6 rfl rfl (fun w hs => zA3 (o' := 1) zD0 rfl sz3 rfl rfl rfl) hK ?_
     refine zA6 7 rfl rfl (fun w hs => zA7 uz3 rfl rfl (hs.cellAt 5 rfl rfl)) hK ?_
     refine zA6 8 rfl rfl (fun w hs => zD1 rfl rfl) hK ?_
     refine zAs (by kernel_rfl) ?_
     clear hK
     refine zB7 rfl ?_ ?_
     ·
      intro h103
      have g103 := of_decide_eq_true h103
      refine zA1 ?_
      refine zA rfl (zA0 (v := .pointer (some _)) rfl) ?_
      refine zAa rfl en23 (snapM_sl (q := q + 1) (c := c + 1) (n := mb.length + fr.length) (mb := mb ++ fr) hM (Mem.closeL (hs.arr [5, 2, 0] 6 (by decide))) hI3 (zCz _ _ _) (by omega) (by omega) hsu1 (by omega) (by omega)) ?_
      clear hs
      rintro _ w ⟨ks, d3, rfl, hso, hs⟩
      refine zA4 (zA5 (zA1 ?_))
      refine zA rfl (zA2 (v := .nilIface) rfl) ?_
      refine zA4 ?_
      refine zAf ?_
      refine zBg (v := .nilIface) rfl rfl ?_
      obtain ⟨r1, r2, hcs⟩ := hso
      rcases hcs with ⟨rfl, hu3, ha3, hI4⟩ | ⟨rfl, hd3, hn3, hI4⟩
      exact ⟨_, rfl, 0, d3, V1, q + 1, 0, 0, (zB2 ad).symm, ⟨r1.trans hsr, by omega, .inl ⟨rfl, hu3, fun e => ha3 (har2 e), rfl, rfl, .inr ⟨by omega, rfl, rfl, hI4⟩⟩⟩, hs⟩
      exact ⟨_, rfl, 0, d3, V1, q + 1, c + 1, _, (zB2 ad).symm, ⟨r1.trans hsr, by omega, .inr (.inl ⟨rfl, hd3, fun e => hn3 (har2 e), hI4⟩)⟩, hs⟩
     ·
      intro h103
      have g103 := of_decide_eq_false h103
      refine zAd ?_
      refine zA5 (zA1 ?_)
      refine zA rfl (zA2 (v := .nilIface) rfl) ?_
      refine zA4 ?_
      refine zAf ?_
      refine zBg (v := .nilIface) rfl rfl ?_
      exact ⟨_, rfl, 0, d2, V1, q + 1, c + 1, mb.length + fr.length, (zB2 ad).symm, ⟨hsr, by omega, .inl ⟨rfl, hup2, har2, rfl, rfl, .inl ⟨by omega, rfl, rfl, hI3⟩⟩⟩, Mem.closeL (hs.arr [5, 2, 0] 6 (by decide))⟩
    ·
     refine zA rfl (zA7 uz3 rfl rfl (hs.cellAt 5 rfl rfl)) ?_
     clear hK
     have hK := hs.drop 5
     refine zA4 ⟨hK, ?_⟩
     refine zA6 15 rfl rfl (fun w hs => zAp rfl rfl (c := ((mb.length + fr.length : Nat) : Int)) (by omega) (inI (by omega) (by omega))) hK ?_
     refine zAb [7] ?_
     refine ⟨⟨_, rfl, ?_⟩, trivial⟩
     refine zA rfl (zA7 uz2 rfl rfl (hs.cellAt 5 rfl rfl)) ?_
     clear hK
     have hK := hs.drop 5
     refine zA4 ⟨hK, ?_⟩
     refine zA6 8 rfl rfl (fun w hs => zAp rfl rfl (c := ((q + 1 : Nat) : Int)) (by omega) (inI (by omega) (by omega))) hK ?_
     refine zA6 16 rfl rfl (fun w hs => zA8 rfl) hK ?_
     refine zA6 17 rfl rfl (fun w hs => zA3 (o' := 2) zD0 rfl sz33 rfl rfl rfl) hK ?_
     refine zAb [18] ?_
     refine ⟨⟨_, rfl, ?_⟩, trivial⟩
     refine zAv (v := .pointer (some _)) hs 5 rfl sz33 rfl rfl rfl rfl ?_
     clear hs
     intro w hs
     try simp only [List.set_cons_succ, List.set_cons_zero] at hs
     clear hK
     have hK := hs.drop 5
     refine zA4 ⟨hK, ?_⟩
     refine zA6 19 rfl rfl (fun w hs => zA8 rfl) hK ?_
     refine zA6 20 rfl rfl (fun w hs => zA3 (o' := 3) zD0 rfl sz2 rfl rfl rfl) hK ?_
     refine zAb [21] ?_
     refine ⟨⟨_, rfl, ?_⟩, trivial⟩
     refine zAv (v := .int .i64 _) hs 5 rfl sz2 rfl rfl rfl rfl ?_
     clear hs
     intro w hs
     try simp only [List.set_cons_succ, List.set_cons_zero] at hs
     clear hK
     have hK := hs.drop 5
     refine zA4 ⟨hK, ?_⟩
     refine zA6 22 rfl rfl (fun w hs => zA8 rfl) hK ?_
     refine zA6 23 rfl rfl (fun w hs => zA3 (o' := 5) zD0 rfl sz3 rfl rfl rfl) hK ?_
     refine zAb [24] ?_
     refine ⟨⟨_, rfl, ?_⟩, trivial⟩
     refine zAv (v := .int .i64 _) hs 5 rfl sz3 rfl rfl rfl rfl ?_
     clear hs
     intro w hs
     try simp only [List.set_cons_succ, List.set_cons_zero] at hs
     clear hK
     have hK := hs.drop 5
     refine zA4 ⟨hK, ?_⟩
     refine zAs (by kernel_rfl) ?_
     clear hK
     refine zA5 ?_
     refine zA5 (zA1 ?_)
     refine zA rfl (zA0 (v := .pointer (some _)) rfl) ?_
     refine zA rfl (zA8 rfl) ?_
     refine zA rfl (zA3 (o' := 4) zD0 rfl sz3 rfl rfl rfl) ?_
     refine zA rfl (zA7 uz3 rfl rfl (hs.cellAt 5 rfl rfl)) ?_
     refine zA rfl (zAp rfl rfl (c := ((c + 1 : Nat) : Int)) (by omega) (inI (by omega) (by omega))) ?_
     refine zA rfl (zA8 rfl) ?_
     refine zA rfl (zA3 (o' := 4) zD0 rfl sz3 rfl rfl rfl) ?_
     refine zAv (v := .int .i64 _) hs 5 rfl sz3 rfl rfl rfl rfl ?_
     clear hs
     intro w hs
     try simp only [List.set_cons_succ, List.set_cons_zero] at hs
     refine zA4 ?_
     refine zA5 ?_
     refine zAw zBt hs ?_
     intro w tr hK
     replace hs := tr _ hs
     clear tr
     refine zA6 0 rfl rfl (fun w hs => zA0 (v := .pointer (some _)) rfl) hK ?_
     refine zA6 1 rfl rfl (fun w hs => zA8 rfl) hK ?_
     refine zA6 2 rfl rfl (fun w hs => zA3 (o' := 4) zD0 rfl sz3 rfl rfl rfl) hK ?_
     refine zA6 3 rfl rfl (fun w hs => zA7 uz3 rfl rfl (hs.cellAt 5 rfl rfl)) hK ?_
     refine zA6 4 rfl rfl (fun w hs => zA0 (v := .pointer (some _)) rfl) hK ?_
     refine zA6 5 rfl rfl (fun w hs => zA8 rfl) hK ?_
     refine zA6 6 rfl rfl (fun w hs => zA3 (o' := 1) zD0 rfl sz3 rfl rfl rfl) hK ?_
     refine zA6 7 rfl rfl (fun w hs => zA7 uz3 rfl rfl (hs.cellAt 5 rfl rfl)) hK ?_
     refine zA6 8 rfl rfl (fun w hs => zD1 rfl rfl) hK ?_
     refine zAs (by kernel_rfl) ?_
     clear hK
     refine zB7 rfl ?_ ?_
     ·
      intro h103
      have g103 := of_decide_eq_true h103
      refine zA1 ?_
      refine zA rfl (zA0 (v := .pointer (some _)) rfl) ?_
      refine zAa rfl en23 (snapM_sl (q := q + 1) (c := c + 1) (n := mb.length + fr.length) (mb := mb ++ fr) hM (Mem.closeL (hs.arr [5, 2, 0] 6 (by decide))) hI3 (zCz _ _ _) (by omega) (by omega) hsu1 (by omega) (by omega)) ?_
      clear hs
      rintro _ w ⟨ks, d3, rfl, hso, hs⟩
      refine zA4 (zA5 (zA1 ?_))
      refine zA rfl (zA2 (v := .nilIface) rfl) ?_
      refine zA4 ?_
      refine zAf ?_
      refine zBg (v := .nilIface) rfl rfl ?_
      obtain ⟨r1, r2, hcs⟩ := hso
      rcases hcs with ⟨rfl, hu3, ha3, hI4⟩ | ⟨rfl, hd3, hn3, hI4⟩
      exact ⟨_, rfl, 0, d3, V1, q + 1, 0, 0, (zB2 ad).symm, ⟨r1.trans hsr, by omega, .inl ⟨rfl, hu3, fun e => ha3 (har2 e), rfl, rfl, .inr ⟨by omega, rfl, rfl, hI4⟩⟩⟩, hs⟩
      exact ⟨_, rfl, 0, d3, V1, q + 1, c + 1, _, (zB2 ad).symm, ⟨r1.trans hsr, by omega, .inr (.inl ⟨rfl, hd3, fun e => hn3 (har2 e), hI4⟩)⟩, hs⟩
     ·
      intro h103
      have g103 := of_decide_eq_false h103
      refine zAd ?_
      refine zA5 (zA1 ?_)
      refine zA rfl (zA2 (v := .nilIface) rfl) ?_
      refine zA4 ?_
      refine zAf ?_
      refine zBg (v := .nilIface) rfl rfl ?_
      exact ⟨_, rfl, 0, d2, V1, q + 1, c + 1, mb.length + fr.length, (zB2 ad).symm, ⟨hsr, by omega, .inl ⟨rfl, hup2, har2, rfl, rfl, .inl ⟨by omega, rfl, rfl, hI3⟩⟩⟩, Mem.closeL (hs.arr [5, 2, 0] 6 (by decide))⟩
   ·
    refine zA1 ?_
    refine zA rfl (zA0 (v := zAo ad _) rfl) ?_
    refine zA rfl (zAy (ad := ad) rfl) ?_
    refine zA4 ?_
    refine zB9 rfl (rfl) ?_
    refine zAw zBt (hs.drop 0) ?_
    intro w tr hK
    replace hs := tr _ hs
    clear tr
    refine zA6 0 rfl rfl (fun w hs => zA0 (v := .pointer (some _)) rfl) hK ?_
    refine zA6 1 rfl rfl (fun w hs => zA8 rfl) hK ?_
    refine zA6 2 rfl rfl (fun w hs => zA3 (o' := 0) zD0 rfl sz25 rfl rfl rfl) hK ?_
    refine zA6 3 rfl rfl (fun w hs => zA7 uz25 rfl rfl (hs.cellAt 4 rfl rfl)) hK ?_
    refine zA6 4 rfl rfl (fun w hs => zA0 (v := .pointer (some _)) rfl) hK ?_
    refine zA6 5 rfl rfl (fun w hs => zA8 rfl) hK ?_
    refine zA6 6 rfl rfl (fun w hs => zA3 (o' := 5) zD0 rfl sz3 rfl rfl rfl) hK ?_
    refine zA6 7 rfl rfl (fun w hs => zA7 uz3 rfl rfl (hs.cellAt 4 rfl rfl)) hK ?_
    refine zAb [8] ?_
    refine ⟨⟨_, rfl, ?_⟩, trivial⟩
    refine zAa rfl en18 (cut_sl hM.toK hs (by omega) mtN (m := ((mb.length : Nat) : Int)) (inI (by omega) (by omega)) (Dk.cut_down hdn2 mtN _)) ?_
    clear hs
    rintro _ w ⟨rfl, hs⟩
    clear hK
    have hK := hs.drop 0
    refine zA4 ⟨hK, ?_⟩
    refine zAs (by kernel_rfl) ?_
    clear hK
    refine zA5 ?_
    refine zA5 (zA1 ?_)
    refine zA rfl (zA0 (v := zAo ad _) rfl) ?_
    refine zA rfl (zAy (ad := ad) rfl) ?_
    refine zA4 ?_
    refine zB9 rfl (rfl) ?_
    refine zA5 (zA1 ?_)
    refine zA rfl (zA0 (v := zAo ad _) rfl) ?_
    refine zA rfl (zA2 (v := zAo ad _) rfl) ?_
    refine zA4 ?_
    refine zAf ?_
    refine zBg (v := zAo ad _) rfl rfl ?_
    exact ⟨_, rfl, 110, d2, V, q, c, mb.length, rfl, ⟨hsr, by omega, .inr (.inr ⟨rfl, hdn2, hne2, hcr2 (hs.openD).1⟩)⟩, Mem.closeL (hs.arr [5, 3, 0] 6 (by decide))⟩
end Go.Proofs.YtdkgdjnbpjjfmaaGreatDoor
namespace Go.Proofs.YtdkgdjnbpjjfmaaGreatDoor
set_option linter.all false
open Go.RowKit
attribute [local irreducible] zAo
variable {g w : World} {L M : List HP} {ad : Nat → Addr} {p : Nat}

def mkM (id base : Nat) (fin : Int) (l : List Pr) : Mf := ⟨id, base, fin, 0, l, [(objNm id bData base, 0, 0), (objNm id bMarks base, 0, 0)]⟩
theorem crc_none : zEw 0 [] = 0 := by decide +kernel
set_option maxRecDepth 100000 in
set_option maxHeartbeats 2000000 in
theorem make_sl (hs : Mem g w L) {id base : Nat} {fin : Int} {a : Option Addr} {n c : Nat} {l : List Pr} (hr : RdK g L 2 (.slice a n c) (l.map prL)) (hn : n = l.length) (hlen : 1 ≤ l.length ∧ l.length ≤ 1000000) (hid : id ≤ 2147483647) (hb : base ≤ 1099511627776) (hF : mfF (mkM id base fin l) = (0, none)) :
    Calls Tryz.prog 78 #[.int .i64 id, .int .i64 base, .int .i64 fin, .int .i64 0, .slice a n c, .slice none 0 0, .slice none 0 0] w (Ret fun v w' => ∃ s1 s2 : SA, v = .tuple #[.agg (mfL (mkM id base fin l) s1 s2).toArray, fltV (0, none)] ∧ Mem g w' (mfP (mkM id base fin l) s1 s2 ++ L)) := by
  subst hn
  refine zAm Tryz.func78 rfl rfl ?_
  skip
  refine zA5 (zA1 ?_)
  refine zBh hs rfl ze39 ?_
  clear hs
  intro b14 w hs
  try simp only [List.set_cons_succ, List.set_cons_zero] at hs
  refine zBh hs rfl ze57 ?_
  clear hs
  intro b15 w hs
  try simp only [List.set_cons_succ, List.set_cons_zero] at hs
  refine zA4 (zA5 (zA1 ?_))
  refine zA rfl (zA0 (v := .int .i64 _) rfl) ?_
  refine zA rfl (zA0 (v := .int .i64 _) rfl) ?_
  refine zA rfl (zA0 (v := .int .i64 _) rfl) ?_
  refine zA rfl (zA0 (v := .int .i64 _) rfl) ?_
  refine zA rfl (zA0 (v := .slice _ _ _) rfl) ?_
  refine zAa rfl en117 (copyPr_sl hs hr.cons.cons rfl hlen) ?_
  clear hs
  rintro _ w ⟨s1, rfl, hs⟩
  refine zA rfl (zCn (cs := [.int .i64 id, .int .i64 base, .int .i64 fin, .int .i64 0, .slice s1.1 l.length s1.2, .slice none 0 0]) zBx ze39 pl39 rfl) ?_
  refine zBh hs rfl ze39 ?_
  clear hs
  intro b16 w hs
  try simp only [List.set_cons_succ, List.set_cons_zero] at hs
  refine zAq hs 0 rfl rfl rfl zDj rfl rfl ?_
  clear hs
  intro w hs
  try simp only [List.set_cons_succ, List.set_cons_zero] at hs
  refine zA4 (zA5 (zA1 ?_))
  refine zA rfl (zA0 (v := .int .i64 _) rfl) ?_
  refine zA rfl (zA0 (v := .int .i64 _) rfl) ?_
  refine zAa rfl en118 (objNm_sl hs id base bData hid hb (by decide) (by decide)) ?_
  clear hs
  rintro _ w ⟨rfl, hs⟩
  refine zA rfl (zA0 (v := .slice _ _ _) rfl) ?_
  refine zA rfl (zAx zC2 rfl) ?_
  refine zA rfl (zA0 (v := .slice _ _ _) rfl) ?_
  refine zAa rfl en119 (hs.callsE (refSum_any (w := w) (b := .slice none 0 0) (l := []) (seqV.nil w) (by simp))) ?_
  clear hs
  rintro _ w ⟨rfl, hs⟩
  rw [crc_none]
  refine zA rfl (zBe ([.string (objNm id bData base), .int .i64 0, .int .u32 0]) zCx zEy pl113 rfl (by simp [Value.cells]) rfl rfl) ?_
  refine zA rfl (zA0 (v := .int .i64 _) rfl) ?_
  refine zA rfl (zA0 (v := .int .i64 _) rfl) ?_
  refine zAa rfl en118 (objNm_sl hs id base bMarks hid hb (by decide) (by decide)) ?_
  clear hs
  rintro _ w ⟨rfl, hs⟩
  refine zA rfl (zA0 (v := .slice _ _ _) rfl) ?_
  refine zA rfl (zAx zC2 rfl) ?_
  refine zA rfl (zA0 (v := .slice _ _ _) rfl) ?_
  refine zAa rfl en119 (hs.callsE (refSum_any (w := w) (b := .slice none 0 0) (l := []) (seqV.nil w) (by simp))) ?_
  clear hs
  rintro _ w ⟨rfl, hs⟩
  rw [crc_none]
  refine zA rfl (zBe ([.string (objNm id bMarks base), .int .i64 0, .int .u32 0]) zCx zEy pl113 rfl (by simp [Value.cells]) rfl rfl) ?_
  refine lw_build2 hs rfl (r1 := obL (objNm id bData base, 0, 0)) (r2 := obL (objNm id bMarks base, 0, 0)) zC zsOb rfl rfl (fill_ob _ _ 0 0 0 0) (by decide) (by decide) ?_
  clear hs
  intro b41 w hs
  replace hs := hs.asRows 0 rfl (m := 2) (k := 3) (rows := [obL (objNm id bData base, 0, 0), obL (objNm id bMarks base, 0, 0)]) rfl rfl (obL_rows [(objNm id bData base, 0, 0), (objNm id bMarks base, 0, 0)])
  simp only [List.set_cons_zero] at hs
  refine zA rfl (zA3 (o' := 5) zBx rfl zDe rfl rfl rfl) ?_
  refine zAv (v := .slice _ _ _) hs 1 rfl zDe rfl rfl rfl rfl ?_
  clear hs
  intro w hs
  try simp only [List.set_cons_succ, List.set_cons_zero] at hs
  refine zA4 (zA5 (zA1 ?_))
  refine zA rfl (zBc hs 1 rfl zBx zDj rfl) ?_
  refine zAa rfl en120 (rManifest_sl (m := mkM id base fin l) (e := s1) (o := (some ⟨b41, 0, none⟩, 2)) hs (MfR.own 2 0 rfl rfl) (by simp [mkM])) ?_
  clear hs
  rintro _ w ⟨rfl, hs⟩
  rw [hF]
  refine zBh hs rfl ze57 ?_
  clear hs
  intro b17 w hs
  try simp only [List.set_cons_succ, List.set_cons_zero] at hs
  refine zAq hs 0 rfl rfl rfl zEi rfl rfl ?_
  clear hs
  intro w hs
  try simp only [List.set_cons_succ, List.set_cons_zero] at hs
  refine zA4 ?_
  refine zA5 ?_
  refine zA5 (zA1 ?_)
  refine zA rfl (zA3 (o' := 0) uz57 rfl sz3 rfl rfl rfl) ?_
  refine zA rfl (zA7 uz3 rfl rfl (hs.cellAt 0 rfl rfl)) ?_
  refine zA rfl (zE6 rfl rfl) ?_
  refine zA4 ?_
  refine zB rfl (rfl) ?_
  refine zAd ?_
  refine zA5 ?_
  refine zAw zBt ((hs.drop 5).drop 4) ?_
  intro w tr hK
  replace hs := tr _ hs
  clear tr
  refine zA6 0 rfl rfl (fun w hs => zBc hs 2 rfl zBx zDj rfl) hK ?_
  refine zAb [1] ?_
  refine ⟨⟨_, rfl, ?_⟩, trivial⟩
  refine zAa rfl en55 (none_sl hs) ?_
  clear hs
  rintro _ w ⟨rfl, hs⟩
  clear hK
  have hK := (hs.drop 5).drop 4
  refine zA4 ⟨hK, ?_⟩
  refine zAb [2] ?_
  refine ⟨⟨_, rfl, ?_⟩, trivial⟩
  refine zAq hs 5 rfl rfl rfl zDj rfl rfl ?_
  clear hs
  intro w hs
  try simp only [List.set_cons_succ, List.set_cons_zero] at hs
  clear hK
  have hK := (hs.drop 5).drop 4
  refine zA4 ⟨hK, ?_⟩
  refine zAb [3] ?_
  refine ⟨⟨_, rfl, ?_⟩, trivial⟩
  refine zAq hs 4 rfl rfl rfl zEi rfl rfl ?_
  clear hs
  intro w hs
  try simp only [List.set_cons_succ, List.set_cons_zero] at hs
  clear hK
  have hK := (hs.drop 5).drop 4
  refine zA4 ⟨hK, ?_⟩
  refine zAs (by kernel_rfl) ?_
  clear hK
  refine zAf ?_
  refine resG [(.cell 14 39, .agg _), (.cell 15 57, .agg _)] rfl ⟨⟨_, rfl, zC0 hs 5 rfl zBx zDj⟩, ⟨_, rfl, zC0 hs 4 rfl uz57 zEi⟩, trivial⟩ ?_
  exact ⟨_, rfl, s1, (some ⟨b41, 0, none⟩, 2), rfl, hs.arr [3, 1] 6 (by decide)⟩
end Go.Proofs.YtdkgdjnbpjjfmaaGreatDoor
namespace Go.Proofs.YtdkgdjnbpjjfmaaGreatDoor
set_option linter.all false
open Go.RowKit
attribute [local irreducible] zAo eV
variable {g w : World} {L M : List HP} {ad : Nat → Addr}

theorem one17 : ∀ id < 12, mfF (oneM id (10 * id)) = (0, none) := by decide +kernel
theorem one17_sl (hs : Mem g w L) (id : Nat) (hid : id < 12) : Calls Tryz.prog 37 #[.int .i64 id] w (Ret fun v w' => ∃ s1 s2 : SA, v = .agg (mfL (oneM id (10 * id)) s1 s2).toArray ∧ Mem g w' (mfP (oneM id (10 * id)) s1 s2 ++ L)) := by
  refine zAm Tryz.func37 rfl rfl ?_
  skip
  refine zA5 (zA1 ?_)
  refine zBh hs rfl ze39 ?_
  clear hs
  intro b2 w hs
  try simp only [List.set_cons_succ, List.set_cons_zero] at hs
  refine zA4 (zA5 (zA1 ?_))
  refine zA rfl (zA0 (v := .int .i64 _) rfl) ?_
  refine zA rfl (zA0 (v := .int .i64 _) rfl) ?_
  refine zA rfl (zDl rfl rfl (c := ((10 * id : Nat) : Int)) (by omega) (inI (by omega) (by omega))) ?_
  refine zA rfl (zA0 (v := .int .i64 _) rfl) ?_
  refine zA rfl (zDl rfl rfl (c := ((10 * id : Nat) : Int)) (by omega) (inI (by omega) (by omega))) ?_
  refine zA rfl (zAp rfl rfl (c := ((10 * id : Nat) : Int) + 5) (by omega) (inI (by omega) (by omega))) ?_
  refine zA rfl (zA0 (v := .int .i64 _) rfl) ?_
  refine zA rfl (zDl rfl rfl (c := ((10 * id : Nat) : Int)) (by omega) (inI (by omega) (by omega))) ?_
  refine zA rfl (zBe ([.int .i64 1, .int .i64 ((10 * id : Nat) : Int)]) zDb ze141 pl141 rfl (by simp [Value.cells]) rfl rfl) ?_
  refine zBb hs rfl (row := prL (1, ((10 * id : Nat) : Int))) zCq zsPr rfl (fill_pr _ _) (by decide) (by decide) ?_
  clear hs
  intro b15 w hs
  refine zAa rfl en78 (make_sl hs (id := id) (base := 10 * id) (fin := ((10 * id : Nat) : Int) + 5) (l := [(1, ((10 * id : Nat) : Int))]) (RdK.one 0 rfl rfl) rfl (by simp) (by omega) (by omega) (one17 id hid)) ?_
  clear hs
  rintro _ w ⟨s1, s2, rfl, hs⟩
  refine zA rfl (zA0 (v := .tuple _) rfl) ?_
  refine zA rfl (zAc (v := .agg _) rfl rfl) ?_
  refine zA rfl (zAc (v := .agg _) rfl rfl) ?_
  refine zBh hs rfl ze39 ?_
  clear hs
  intro b3 w hs
  try simp only [List.set_cons_succ, List.set_cons_zero] at hs
  refine zBh hs rfl ze57 ?_
  clear hs
  intro b4 w hs
  try simp only [List.set_cons_succ, List.set_cons_zero] at hs
  refine zAq hs 1 rfl rfl rfl zDj rfl rfl ?_
  clear hs
  intro w hs
  try simp only [List.set_cons_succ, List.set_cons_zero] at hs
  refine zAq hs 0 rfl rfl rfl zEi rfl rfl ?_
  clear hs
  intro w hs
  try simp only [List.set_cons_succ, List.set_cons_zero] at hs
  refine zA4 (zA5 (zA1 ?_))
  refine zA rfl (zBc hs 1 rfl zBx zDj rfl) ?_
  refine zAq hs 5 rfl rfl rfl zDj rfl rfl ?_
  clear hs
  intro w hs
  try simp only [List.set_cons_succ, List.set_cons_zero] at hs
  refine zA4 ?_
  refine zAf ?_
  refine resG [(.cell 2 39, .agg _)] rfl ⟨⟨_, rfl, zC0 hs 5 rfl zBx zDj⟩, trivial⟩ ?_
  exact ⟨_, rfl, s1, s2, rfl, hs.arr [2, 3] 6 (by decide)⟩
def kdz (z : Int) : Nat := (IntKind.i64.wrap (z.tdiv 4) % ((4 : Nat) : Int)).toNat + 1
def idz (z : Int) : Nat := (z % ((4 : Nat) : Int)).toNat + 4 * (IntKind.i64.wrap (z.tdiv 16) % ((3 : Nat) : Int)).toNat
def enz (z : Int) : En := ((kdz z : Nat), oneM (idz z) (10 * idz z))
theorem idz_lt (z : Int) : idz z < 12 := by unfold idz; omega
theorem kdz_lt (z : Int) : 1 ≤ kdz z ∧ kdz z ≤ 4 := by unfold kdz; omega
theorem enz_ok (z : Int) : EnOk (enz z) := by
  have h := kdz_lt z
  refine ⟨one17 _ (idz_lt z), by simp only [enz]; omega, by simp only [enz]; omega, fun o ho => ?_⟩
  simp only [enz, oneM, mkM, List.mem_cons, List.not_mem_nil, or_false] at ho
  rcases ho with rfl | rfl <;> exact (by decide : (0 : Nat) < 4294967296)
theorem enz_obs (z : Int) : (enz z).2.obs.length ≤ 1000000 := by simp [enz, oneM, mkM]
theorem entry17_sl (hs : Mem g w L) (z : Int) : Calls Tryz.prog 12 #[.int .i64 z] w (Ret fun v w' => ∃ s1 s2 : SA, v = .agg (.int .i64 (enz z).1 :: mfL (enz z).2 s1 s2).toArray ∧ Mem g w' (mfP (enz z).2 s1 s2 ++ L)) := by
  have h0 := kdz_lt z
  refine zAm Tryz.func12 rfl rfl ?_
  skip
  refine zA5 (zA1 ?_)
  refine zBh hs rfl ze41 ?_
  clear hs
  intro b2 w hs
  try simp only [List.set_cons_succ, List.set_cons_zero] at hs
  refine zA4 (zA5 (zA1 ?_))
  refine zA rfl (zA0 (v := .int .i64 _) rfl) ?_
  refine zA rfl (run_quo rfl rfl (by decide)) ?_
  refine zAa rfl en17 (numberL_sl hs (IntKind.i64.wrap (z.tdiv 4)) 4 (by decide)) ?_
  clear hs
  rintro _ w ⟨rfl, hk4, hs⟩
  refine zA rfl (zAp rfl rfl (c := ((kdz z : Nat) : Int)) (by unfold kdz; omega) (inI (by omega) (by omega))) ?_
  refine zA rfl (zA0 (v := .int .i64 _) rfl) ?_
  refine zAa rfl en17 (numberL_sl hs z 4 (by decide)) ?_
  clear hs
  rintro _ w ⟨rfl, hi4, hs⟩
  refine zA rfl (zA0 (v := .int .i64 _) rfl) ?_
  refine zA rfl (run_quo rfl rfl (by decide)) ?_
  refine zAa rfl en17 (numberL_sl hs (IntKind.i64.wrap (z.tdiv 16)) 3 (by decide)) ?_
  clear hs
  rintro _ w ⟨rfl, hi3, hs⟩
  refine zA rfl (zDl rfl rfl (c := ((4 * (IntKind.i64.wrap (z.tdiv 16) % ((3 : Nat) : Int)).toNat : Nat) : Int)) (by omega) (inI (by omega) (by omega))) ?_
  refine zA rfl (zAp rfl rfl (c := ((idz z : Nat) : Int)) (by unfold idz; omega) (inI (by have := idz_lt z; omega) (by have := idz_lt z; omega))) ?_
  refine zAa rfl en37 (one17_sl hs (idz z) (idz_lt z)) ?_
  clear hs
  rintro _ w ⟨s1, s2, rfl, hs⟩
  refine zA rfl (zFc (k := (kdz z : Nat)) (m := oneM (idz z) (10 * idz z)) (e := s1) (o := s2) uz41 ze41 pl41 rfl rfl) ?_
  refine zAq hs 2 rfl rfl rfl sz41 rfl rfl ?_
  clear hs
  intro w hs
  try simp only [List.set_cons_succ, List.set_cons_zero] at hs
  refine zA4 ?_
  refine zAf ?_
  refine resG [(.cell 2 41, .agg _)] rfl ⟨⟨_, rfl, zC0 hs 2 rfl uz41 sz41⟩, trivial⟩ ?_
  exact ⟨_, rfl, s1, s2, rfl, hs.arr [0, 1] 3 (by decide)⟩
end Go.Proofs.YtdkgdjnbpjjfmaaGreatDoor
namespace Go.Proofs.YtdkgdjnbpjjfmaaGreatDoor
set_option linter.all false
open Go.RowKit
attribute [local irreducible] zAo eV
variable {g w : World} {L M : List HP} {ad : Nat → Addr} {p d pv ev : Nat} {dk : Dk} {f : ByteArray → Option (List UInt8)} {V V0 U : Vw} {q q0 r c n : Nat} {es : List En}

theorem runs_props : ∀ {es : List En} {V U : Vw}, runs V es = some U → V.ok → V.sums → (∀ e ∈ es, EnOk e) → U.ok ∧ U.sums ∧ U.length ≤ V.length + es.length
  | [], V, U, h, ho, hu, _ => by cases h; exact ⟨ho, hu, Nat.le_refl _⟩
  | e :: es, V, U, h, ho, hu, hE => by
    simp only [runs] at h
    split at h
    · have h1 := runs_props h (Vw.apply_ok ho e.1 e.2) (Vw.apply_sums hu (hE e (List.mem_cons_self ..)).2.2.2) fun x hx => hE x (List.mem_cons_of_mem _ hx)
      have h2 := V.apply_len e.1 e.2
      exact ⟨h1.1, h1.2.1, by simp only [List.length_cons]; omega⟩
    · cases h
/-- What the disk has of a log. -/
structure LgSt (f : ByteArray → Option (List UInt8)) (V0 : Vw) (q0 : Nat) (es : List En) (V : Vw) : Prop where
  snap : Snp f V0 q0
  file : f mtN = some (frames q0 es)
  run : runs V0 es = some V
  ok0 : V0.ok
  sum0 : V0.sums
  len0 : V0.length ≤ q0
  ens : ∀ e ∈ es, EnOk e
theorem LgSt.props (h : LgSt f V0 q0 es V) : V.ok ∧ V.sums ∧ V.length ≤ q0 + es.length := by
  have h1 := runs_props h.run h.ok0 h.sum0 h.ens
  have := h.len0
  exact ⟨h1.1, h1.2.1, by omega⟩
theorem Snp.upd (h : Snp f V q) (v : List UInt8) : Snp (zDt f mtN v) V q := by
  unfold Snp at *
  rw [updF_other _ _ (Ne.symm mt_sn)]
  exact h
theorem LgSt.app (h : LgSt f V0 q0 es V) {e : En} (hE : EnOk e) (hap : (V.apply e.1 e.2).1 = (0, none)) : LgSt (zDt f mtN (frames q0 es ++ frame (q0 + es.length + 1) e)) V0 q0 (es ++ [e]) (V.apply e.1 e.2).2 :=
  ⟨h.snap.upd _, by rw [zCz, frames_snoc], runs_snoc h.run hap, h.ok0, h.sum0, h.len0, fun x hx => by
    rcases List.mem_append.1 hx with hx | hx
    · exact h.ens x hx
    · simp only [List.mem_cons, List.not_mem_nil, or_false] at hx; subst hx; exact hE⟩
theorem LgSt.shot (h : LgSt f V0 q0 es V) : LgSt (zDt (zDt f snN (zBm (snapB (q0 + es.length) V))) mtN []) V (q0 + es.length) [] V := by
  have hp := h.props
  exact ⟨.inr (by rw [updF_other _ _ (Ne.symm mt_sn), zCz]), by rw [zCz]; rfl, rfl, hp.1, hp.2.1, hp.2.2, fun e he => (by cases he)⟩
/-- A log that has so many entries, so many of them in its file. -/
def LgW (f : ByteArray → Option (List UInt8)) (q c n : Nat) (V : Vw) : Prop := ∃ V0 q0 es, LgSt f V0 q0 es V ∧ q = q0 + es.length ∧ c = es.length ∧ n = (frames q0 es).length
theorem LgW.props (h : LgW f q c n V) : V.ok ∧ V.sums ∧ V.length ≤ q ∧ c ≤ q ∧ n ≤ 6021 * c := by
  obtain ⟨V0, q0, es, h, rfl, rfl, rfl⟩ := h
  have h1 := h.props
  exact ⟨h1.1, h1.2.1, h1.2.2, by omega, frames_len es q0 h.ens⟩
/-- A log on a disk that has nothing. -/
theorem LgW.zero : LgW (zDt (fun _ => none) mtN []) 0 0 0 [] := ⟨[], 0, [], ⟨.inl ⟨by rw [updF_other _ _ (Ne.symm mt_sn)], rfl, rfl⟩, by rw [zCz]; rfl, rfl, Vw.ok_nil, (fun x hx => by cases hx), Nat.le_refl _, (fun e he => by cases he)⟩, rfl, rfl, rfl⟩
theorem open0_sl (hM : ErrM ad g) {rm : Nat} (hrm : rm ≤ 4194304) (hs : Mem g w (zBv d (Dk.empty rm) :: L)) (hev : 1 ≤ ev ∧ ev ≤ 4096) :
    Calls Tryz.prog 10 #[.pointer (some ⟨d, 0, none⟩), .int .i64 (ev : Nat)] w (Ret fun v w' => ∃ p dk2, v = .tuple #[.pointer (some ⟨p, 0, none⟩), .nilIface] ∧ dk2.armed = 0 ∧ dk2.room = rm ∧ dk2.calls ≤ 4 ∧ LgI (zDt (fun _ => none) mtN []) dk2 ∧ Mem g w' (LogC p d ev [] 0 0 0 :: zBv d dk2 :: L)) := by
  refine (openM_sl hM hs (RawI.start hrm) rfl (by simp [Dk.empty]) hev (V0 := []) (q0 := 0) (mb := []) (V := []) (q := 0) (c := 0) (n := 0) (.inl ⟨rfl, rfl, rfl⟩) Vw.ok_nil (fun x hx => by cases hx) (by simp) (.inr ⟨rfl, rfl⟩) (by simp) (.none (.inl rfl)) (by decide)).mono ?_
  rintro e w' ⟨v, rfl, p, dk2, rfl, h1, h2, h3, h4, h5⟩
  exact ⟨_, rfl, p, dk2, rfl, h1, h2, by simpa [Dk.empty] using h3, h4, h5⟩
/-- An Append while the power is there. -/
def AppU (f : ByteArray → Option (List UInt8)) (dk : Dk) (ev : Nat) (V : Vw) (q c n : Nat) (k : Int) (x : Mf) (f' : ByteArray → Option (List UInt8)) (dk2 : Dk) (q' c' n' : Nat) : Prop :=
  LgI f' dk2 ∧ dk2.armed = 0 ∧ dk2.room = dk.room ∧ dk2.calls ≤ dk.calls + 9 ∧ LgW f' q' c' n' (V.apply k x).2 ∧
  ((V.apply k x).1.1 ≠ 0 ∧ q' = q ∧ c' = c ∧ n' = n ∧ f' = f ∧ dk2 = dk ∨ (V.apply k x).1 = (0, none) ∧ q' = q + 1 ∧ (c + 1 < ev ∧ c' = c + 1 ∧ n' = n + (frame (q + 1) (k, x)).length ∨ ev ≤ c + 1 ∧ c' = 0 ∧ n' = 0))
theorem appU_sl (hM : ErrM ad g) (hs : Mem g w (LogC p d ev V q c n :: zBv d dk :: L)) (hI : LgI f dk) (ha : dk.armed = 0) (hW : LgW f q c n V) (hcl : dk.calls < 700000) (hr : 1000000 ≤ dk.room) (hq : q ≤ 31) {k : Int} {x : Mf} {e o : SA} (hm : MfR g L x e o) (hob : x.obs.length ≤ 1000000) (hsu : ∀ o ∈ x.obs, o.2.2 < 4294967296) :
    Calls Tryz.prog 13 #[.pointer (some ⟨p, 0, none⟩), .agg (.int .i64 k :: mfL x e o).toArray] w (Ret fun v w' => ∃ f' dk2 q' c' n' eb, v = flV ad (V.apply k x).1 eb ∧ AppU f dk ev V q c n k x f' dk2 q' c' n' ∧ Mem g w' (flC ad (V.apply k x).1 eb :: LogC p d ev (V.apply k x).2 q' c' n' :: zBv d dk2 :: L)) := by
  rcases V.apply_two k x with hap | hap
  · obtain ⟨V0, q0, es, h, rfl, rfl, rfl⟩ := hW
    have hl := frames_len es q0 h.ens
    have hp := h.props
    have hen := Vw.apply_en hap
    have hok : EnOk (k, x) := ⟨hen.1, hen.2.1, hen.2.2, hsu⟩
    refine (appOk_sl hM hs hI h.file rfl hcl hr hp.2.1 (by omega) (by omega) (by omega) (by omega) hm hob hsu hap).mono ?_
    rintro r w' ⟨v, rfl, kr, dk2, V', q', c', n', rfl, ⟨h1, h2, h3⟩, h4⟩
    rcases h3 with ⟨rfl, h5, h6, rfl, rfl, h7⟩ | ⟨_, _, h5, _⟩ | ⟨_, _, h5, _⟩
    · rcases h7 with ⟨h8, rfl, rfl, h9⟩ | ⟨h8, rfl, rfl, h9⟩
      · refine ⟨_, rfl, _, dk2, _, _, _, 0, by rw [hap]; rfl, ⟨h9, h6 ha, h1, h2, ⟨V0, q0, _, h.app (e := (k, x)) hok hap, by simp; omega, by simp, by rw [frames_snoc]; simp⟩, .inr ⟨hap, rfl, .inl ⟨h8, rfl, rfl⟩⟩⟩, ?_⟩
        rw [hap]
        exact h4.addE (emp_okF _)
      · have h10 := (h.app (e := (k, x)) hok hap).shot
        rw [show q0 + (es ++ [(k, x)]).length = q0 + es.length + 1 by simp; omega] at h10
        refine ⟨_, rfl, _, dk2, _, _, _, 0, by rw [hap]; rfl, ⟨h9, h6 ha, h1, h2, ⟨_, _, _, h10, rfl, rfl, rfl⟩, .inr ⟨hap, rfl, .inr ⟨h8, rfl, rfl⟩⟩⟩, ?_⟩
        rw [hap]
        exact h4.addE (emp_okF _)
    · exact absurd ha h5
    · exact absurd ha h5
  · refine (appBad_sl hM hs hm hob hap).mono ?_
    rintro r w' ⟨v, rfl, eb, rfl, h4⟩
    have h5 := Vw.apply_ne hap
    refine ⟨_, rfl, f, dk, q, c, n, eb, rfl, ⟨hI, ha, rfl, by omega, by rw [h5]; exact hW, .inl ⟨hap, rfl, rfl, rfl, rfl, rfl⟩⟩, by rw [h5]; exact h4⟩
/-- What stands between two steps of a statement. -/
structure LgK (f : ByteArray → Option (List UInt8)) (dk : Dk) (q c n : Nat) (V : Vw) (K B : Nat) : Prop where
  w : LgW f q c n V
  I : LgI f dk
  a : dk.armed = 0
  r : dk.room = 1048576
  q : q ≤ K
  cl : dk.calls ≤ B
theorem LgK.mono {K B K2 B2 : Nat} (h : LgK f dk q c n V K B) (h1 : K ≤ K2) (h2 : B ≤ B2) : LgK f dk q c n V K2 B2 := ⟨h.w, h.I, h.a, h.r, Nat.le_trans h.q h1, Nat.le_trans h.cl h2⟩
theorem LgK.app {K B : Nat} (h : LgK f dk q c n V K B) {k : Int} {x : Mf} {f' : ByteArray → Option (List UInt8)} {dk2 : Dk} {q' c' n' : Nat} (hU : AppU f dk ev V q c n k x f' dk2 q' c' n') : LgK f' dk2 q' c' n' (V.apply k x).2 (K + 1) (B + 9) := by
  obtain ⟨h1, h2, h3, h4, h5, h6⟩ := hU
  have hq := h.q
  have hc := h.cl
  refine ⟨h5, h1, h2, h3.trans h.r, ?_, by omega⟩
  rcases h6 with ⟨_, h7, _⟩ | ⟨_, h7, _⟩
  · omega
  · omega
theorem LgK.next {K B : Nat} (h : LgK f dk q c n V K B) {dk2 : Dk} (h1 : dk2.armed = 0) (h2 : dk2.room = dk.room) (h3 : dk2.calls ≤ dk.calls + 4) (h4 : LgI f dk2) : LgK f dk2 q c n V K (B + 4) := ⟨h.w, h4, h1, h2.trans h.r, h.q, by have := h.cl; omega⟩
theorem LgK.shot {K B : Nat} (h : LgK f dk q c n V K B) {f' : ByteArray → Option (List UInt8)} {dk2 : Dk} (h0 : LgI f' dk2) (h1 : dk2.armed = 0) (h2 : dk2.room = dk.room) (h3 : dk2.calls ≤ dk.calls + 7) (h4 : LgW f' q 0 0 V) : LgK f' dk2 q 0 0 V K (B + 7) := ⟨h4, h0, h1, h2.trans h.r, h.q, by have := h.cl; omega⟩
theorem LgK.zero {dk : Dk} (h1 : dk.armed = 0) (h2 : dk.room = 1048576) (h3 : dk.calls ≤ 4) (h4 : LgI (zDt (fun _ => none) mtN []) dk) : LgK (zDt (fun _ => none) mtN []) dk 0 0 0 [] 0 4 := ⟨LgW.zero, h4, h1, h2, Nat.le_refl _, h3⟩
set_option maxRecDepth 10000 in
theorem first17_sl (hM : ErrM ad g) (hs : Mem g w L) : Calls Tryz.prog 8 #[] w (Ret fun v w' => v = .bool true ∧ Mem g w' L) := by
  refine zAm Tryz.func8 rfl rfl ?_
  skip
  refine zA5 (zA1 ?_)
  refine zA rfl (zA2 (v := .bool _) rfl) ?_
  refine zA4 (zA5 (zA1 ?_))
  refine zAa rfl en9 (newd_sl hs (r := 1000) (by decide) (by decide)) ?_
  clear hs
  rintro _ w ⟨d, rfl, hs⟩
  refine zA rfl (zA0 (v := .tuple _) rfl) ?_
  refine zA rfl (zAc (v := .pointer (some _)) rfl rfl) ?_
  refine zA rfl (zAc (v := .nilIface) rfl rfl) ?_
  refine zA rfl (zA2 (v := .pointer (some _)) rfl) ?_
  refine zA rfl (zA2 (v := .nilIface) rfl) ?_
  refine zA4 ?_
  refine zA5 ?_
  refine zA5 (zA1 ?_)
  refine zA rfl (zA0 (v := .pointer (some _)) rfl) ?_
  refine zA rfl (zEv uz25 rfl rfl) ?_
  refine zA rfl (zA0 (v := .bool _) rfl) ?_
  refine zAk rfl rfl (rfl) ?_
  refine zA rfl (zA0 (v := .nilIface) rfl) ?_
  refine zAk rfl rfl (rfl) ?_
  refine zA rfl (zBj rfl) ?_
  refine zA rfl (zAj (v := .bool _) rfl (rfl) rfl) ?_
  refine zA4 ?_
  refine zB rfl (rfl) ?_
  refine zAd ?_
  refine zA5 (zA1 ?_)
  refine zA rfl (zA0 (v := .pointer (some _)) rfl) ?_
  refine zAa rfl en10 (open0_sl hM (rm := 1000) (ev := 5) (by decide) hs (by decide)) ?_
  clear hs
  rintro _ w ⟨p, dk, rfl, h1, h2, h3, h4, hs⟩
  refine zA rfl (zA0 (v := .tuple _) rfl) ?_
  refine zA rfl (zAc (v := .pointer (some _)) rfl rfl) ?_
  refine zA rfl (zAc (v := .nilIface) rfl rfl) ?_
  refine zA rfl (zA2 (v := .pointer (some _)) rfl) ?_
  refine zA rfl (zA2 (v := .nilIface) rfl) ?_
  refine zA4 (zA5 (zA1 ?_))
  refine zA rfl (zA0 (v := .pointer (some _)) rfl) ?_
  refine zA rfl (zFh uz30 rfl rfl) ?_
  refine zA rfl (zA0 (v := .bool _) rfl) ?_
  refine zAk rfl rfl (rfl) ?_
  refine zA rfl (zA0 (v := .nilIface) rfl) ?_
  refine zAk rfl rfl (rfl) ?_
  refine zA rfl (run_eqnn rfl) ?_
  refine zA rfl (zAi (v := .bool _) rfl (rfl) rfl) ?_
  refine zA rfl (zA0 (v := .bool _) rfl) ?_
  refine zAk rfl rfl (rfl) ?_
  refine zA rfl (zA0 (v := .pointer (some _)) rfl) ?_
  refine zAk rfl rfl (rfl) ?_
  refine zAa rfl en20 (seq_sl hs) ?_
  clear hs
  rintro _ w ⟨rfl, hs⟩
  refine zAk rfl rfl (rfl) ?_
  refine zA rfl (zBq rfl rfl) ?_
  refine zA rfl (zAi (v := .bool _) rfl (rfl) rfl) ?_
  refine zA rfl (zA2 (v := .bool _) rfl) ?_
  refine zA4 ?_
  refine zAf ?_
  refine zBg (v := .bool _) rfl rfl ?_
  exact ⟨_, rfl, rfl, hs.tail.tail⟩
end Go.Proofs.YtdkgdjnbpjjfmaaGreatDoor
namespace Go.Proofs.YtdkgdjnbpjjfmaaGreatDoor
set_option linter.all false
open Go.RowKit
attribute [local irreducible] zAo
variable {g w : World} {L M : List HP} {ad : Nat → Addr}

theorem sentinel_sl (hA : ErrA ad g) (hs : Mem g w L) {c : Nat} (hc : c ∈ allCodes) : Calls Tryz.prog 57 #[zAo ad c] w (Ret fun v w' => v = .int .i64 c ∧ Mem g w' L) := by
  have h := sentinel_any (hA.atW hs) hs.size hc
  rw [← zD6 ad (hA.pos c hc)] at h
  exact hs.calls h
def faultV (c : Int) (p : Bool) (q : Int) : Value := .agg #[.int .i64 c, .bool p, .int .i64 q]
theorem placed_sl (hs : Mem g w L) {c : Int} (hc : c ≠ 0) (q : Int) : Calls Tryz.prog 58 #[.int .i64 c, .int .i64 q] w (Ret fun v w' => v = faultV c true q ∧ Mem g w' L) := by
  refine zAm Tryz.func58 rfl rfl ?_
  skip
  refine zA5 (zA1 ?_)
  refine zBh hs rfl ze57 ?_
  clear hs
  intro b4 w hs
  try simp only [List.set_cons_succ, List.set_cons_zero] at hs
  refine zA4 ?_
  refine zA5 ?_
  refine zA5 (zA1 ?_)
  refine zA rfl (zA0 (v := .int .i64 _) rfl) ?_
  refine zA rfl (zBq rfl rfl) ?_
  refine zA4 ?_
  refine zB rfl (decide_eq_false hc) ?_
  refine zAd ?_
  refine zA5 (zA1 ?_)
  refine zA rfl (zA0 (v := .int .i64 _) rfl) ?_
  refine zA rfl (zA0 (v := .int .i64 _) rfl) ?_
  refine zA rfl (zBe ([.int .i64 c, .bool true, .int .i64 q]) uz57 ze57 pl57 rfl (by simp [Value.cells]) rfl rfl) ?_
  refine zAq hs 0 rfl rfl rfl zEi rfl rfl ?_
  clear hs
  intro w hs
  try simp only [List.set_cons_succ, List.set_cons_zero] at hs
  refine zA4 ?_
  refine zAf ?_
  refine resG [(.cell 4 57, .agg _)] rfl ⟨⟨_, rfl, zC0 hs 0 rfl uz57 zEi⟩, trivial⟩ ?_
  exact ⟨_, rfl, rfl, hs.tail⟩
theorem fault0_sl (hA : ErrA ad g) (hs : Mem g w L) {c : Nat} (hc : c = 0 ∨ c ∈ allCodes) : Calls Tryz.prog 25 #[zAo ad c] w (Ret fun v w' => v = faultV c false 0 ∧ Mem g w' L) := by
  rcases hc with rfl | hc
  · rw [zB2]; exact hs.calls (fault_nil w)
  · have h := fault_err (hA.atW hs) hs.size hc
    rw [← zD6 ad (hA.pos c hc)] at h
    exact hs.calls h
theorem run_assertAt {ρ : Env} {dst : Option Tmp} {ty : TypeId} {pos : String} {aft : Array Edge} {x : Operand} {b : Nat} (hx : ev ρ x = .iface 104 (.pointer (some ⟨b, 0, none⟩))) : (execOp (ev ρ) ⟨dst, .typeAssert x 27 104 true, ty, pos, aft, none⟩).run Tryz.prog w = .ok (.value (.tuple #[.pointer (some ⟨b, 0, none⟩), .bool true])) w := by
  have h : ∀ (v : Value) (w : World), (Instr.typeAssert (.iface 104 v) 27 104 true).run Tryz.prog w = .ok (.tuple #[v, .bool true]) w := fun _ _ => by kernel_rfl
  simp only [execOp, hx, Sem.run_bind, h, Result.andThen_ok, Sem.run_pure]
theorem faultAt_sl (hA : ErrA ad g) {c : Nat} {z : Int} {b : Nat} (hs : Mem g w (cells b [.int .i64 z, zAo ad c] 109 :: L)) (hc : c ∈ allCodes) :
    Calls Tryz.prog 25 #[.iface 104 (.pointer (some ⟨b, 0, none⟩))] w (Ret fun v w' => v = faultV c true z ∧ Mem g w' (cells b [.int .i64 z, zAo ad c] 109 :: L)) := by
  have hc0 := hA.pos c hc
  have he : eV ad 103 b = .iface 104 (.pointer (some ⟨b, 0, none⟩)) := eV_at (by decide) (by decide) b
  refine zAm Tryz.func25 rfl rfl ?_
  skip
  refine zA5 (zA1 ?_)
  refine zBh hs rfl ze57 ?_
  clear hs
  intro b2 w hs
  try simp only [List.set_cons_succ, List.set_cons_zero] at hs
  refine zA4 ?_
  refine zA5 ?_
  refine zA5 (zA1 ?_)
  refine zA rfl (zA0 (v := .iface _ (.pointer (some _))) rfl) ?_
  refine zA rfl (run_eqE (ad := ad) (c := 103) (eb := b) he.symm) ?_
  refine zA4 ?_
  refine zB rfl (rfl) ?_
  refine zAd ?_
  refine zA5 (zA1 ?_)
  refine zA rfl (zA0 (v := .iface _ (.pointer (some _))) rfl) ?_
  refine zA rfl (run_assertAt rfl) ?_
  refine zA rfl (zA0 (v := .tuple _) rfl) ?_
  refine zA rfl (zAc (v := .pointer (some _)) rfl rfl) ?_
  refine zA rfl (zAc (v := .bool _) rfl rfl) ?_
  refine zA rfl (zA2 (v := .pointer (some _)) rfl) ?_
  refine zA rfl (zA2 (v := .bool _) rfl) ?_
  refine zA4 ?_
  refine zA5 ?_
  refine zA5 (zA1 ?_)
  refine zA rfl (zA0 (v := .bool _) rfl) ?_
  refine zA rfl (zBz rfl) ?_
  refine zA4 ?_
  refine zB rfl (zBu (rfl)) ?_
  refine zAd ?_
  refine zA5 ?_
  refine zA5 (zA1 ?_)
  refine zA rfl (zA0 (v := .pointer (some _)) rfl) ?_
  refine zA rfl (zEv uz104 rfl rfl) ?_
  refine zA rfl (zA0 (v := .bool _) rfl) ?_
  refine zAk rfl rfl rfl ?_
  refine zA rfl (zA0 (v := .pointer (some _)) rfl) ?_
  refine zAk rfl rfl rfl ?_
  refine zA rfl (zA8 rfl) ?_
  refine zAk rfl rfl rfl ?_
  refine zA rfl (zA3 (o' := 1) uz109 rfl sz27 rfl rfl rfl) ?_
  refine zAk rfl rfl rfl ?_
  refine zA rfl (zA7 zCv rfl rfl (hs.cellAt 1 rfl rfl)) ?_
  refine zAk rfl rfl rfl ?_
  refine zA rfl (zD (ad := ad) rfl) ?_
  refine zA rfl (zAj (v := .bool _) rfl rfl rfl) ?_
  refine zA4 ?_
  refine zB rfl (decide_eq_false hc0) ?_
  refine zAd ?_
  refine zA5 ?_
  refine zAw zBt hs.tail ?_
  intro w tr hK
  replace hs := tr _ hs
  clear tr
  refine zA6 0 rfl rfl (fun w hs => zA0 (v := .pointer (some _)) rfl) hK ?_
  refine zA6 1 rfl rfl (fun w hs => zA8 rfl) hK ?_
  refine zA6 2 rfl rfl (fun w hs => zA3 (o' := 1) uz109 rfl sz27 rfl rfl rfl) hK ?_
  refine zA6 3 rfl rfl (fun w hs => zA7 zCv rfl rfl (hs.cellAt 0 rfl rfl)) hK ?_
  refine zA6 5 rfl rfl (fun w hs => zA0 (v := .pointer (some _)) rfl) hK ?_
  refine zA6 6 rfl rfl (fun w hs => zA8 rfl) hK ?_
  refine zA6 7 rfl rfl (fun w hs => zA3 (o' := 0) uz109 rfl sz3 rfl rfl rfl) hK ?_
  refine zA6 8 rfl rfl (fun w hs => zA7 uz3 rfl rfl (hs.cellAt 0 rfl rfl)) hK ?_
  refine zAb [4] ?_
  refine ⟨⟨_, rfl, ?_⟩, trivial⟩
  refine zAa rfl en57 (sentinel_sl hA hs hc) ?_
  clear hs
  rintro _ w ⟨rfl, hs⟩
  clear hK
  have hK := hs.tail
  refine zA4 ⟨hK, ?_⟩
  refine zAb [9] ?_
  refine ⟨⟨_, rfl, ?_⟩, trivial⟩
  refine zAa rfl en58 (placed_sl hs (c := c) (by omega) z) ?_
  clear hs
  rintro _ w ⟨rfl, hs⟩
  clear hK
  have hK := hs.tail
  refine zA4 ⟨hK, ?_⟩
  refine zAb [10] ?_
  refine ⟨⟨_, rfl, ?_⟩, trivial⟩
  refine zAq hs 0 rfl rfl rfl zEi rfl rfl ?_
  clear hs
  intro w hs
  try simp only [List.set_cons_succ, List.set_cons_zero] at hs
  clear hK
  have hK := hs.tail
  refine zA4 ⟨hK, ?_⟩
  refine zAs (by kernel_rfl) ?_
  clear hK
  refine zAf ?_
  refine resG [(.cell 2 57, .agg _)] rfl ⟨⟨_, rfl, zC0 hs 0 rfl uz57 zEi⟩, trivial⟩ ?_
  exact ⟨_, rfl, rfl, hs.tail⟩
end Go.Proofs.YtdkgdjnbpjjfmaaGreatDoor
namespace Go.Proofs.YtdkgdjnbpjjfmaaGreatDoor
set_option linter.all false
open Go.RowKit
attribute [local irreducible] zAo eV
variable {g w : World} {L M : List HP} {ad : Nat → Addr} {eb : Nat}

def ffV (F : Flt) : Value := faultV F.1 F.2.isSome (((F.2.getD 0 : Nat)) : Int)
def FltA (F : Flt) : Prop := F = (0, none) ∨ F.1 ∈ allCodes
theorem apply_fltA (V : Vw) (k : Int) (x : Mf) : FltA (V.apply k x).1 := (V.apply_flt k x).1.imp id fun h => by
  simp only [allCodes, List.mem_cons, List.not_mem_nil, or_false] at h ⊢; omega
theorem faultF_sl (hA : ErrA ad g) {F : Flt} (hF : FltA F) (hs : Mem g w (flC ad F eb :: L)) : Calls Tryz.prog 25 #[flV ad F eb] w (Ret fun v w' => v = ffV F ∧ Mem g w' (flC ad F eb :: L)) := by
  obtain ⟨c, z⟩ := F
  cases z with
  | none => exact fault0_sl hA hs (hF.imp (fun h => congrArg Prod.fst h) id)
  | some z =>
    have hc : c ∈ allCodes := by
      rcases hF with h | h
      · cases h
      · exact h
    exact faultAt_sl hA hs hc
theorem sameFt_sl (hA : ErrA ad g) {F : Flt} (hF : FltA F) (hs : Mem g w (flC ad F eb :: L)) : Calls Tryz.prog 24 #[flV ad F eb, ffV F] w (Ret fun v w' => v = .bool true ∧ Mem g w' (flC ad F eb :: L)) := by
  unfold ffV
  refine zAm Tryz.func24 rfl rfl ?_
  skip
  refine zA5 (zA1 ?_)
  refine zCd (v := .agg _) hs rfl rfl ?_
  clear hs
  intro b3 w hs
  try simp only [List.set_cons_succ, List.set_cons_zero] at hs
  refine zA rfl (zA2 (v := .bool _) rfl) ?_
  refine zA4 ?_
  refine zA5 ?_
  refine zAw zBt hs ?_
  intro w tr hK
  replace hs := tr _ hs
  clear tr
  refine zA6 0 rfl rfl (fun w hs => zA0 (v := flV ad _ _) rfl) hK ?_
  refine zA6 2 rfl rfl (fun w hs => zBc hs 0 rfl uz57 zEi rfl) hK ?_
  refine zAb [1] ?_
  refine ⟨⟨_, rfl, ?_⟩, trivial⟩
  refine zAa rfl en25 (faultF_sl hA hF (hs.arr [1, 0] 2 (by decide))) ?_
  clear hs
  rintro _ w ⟨rfl, hs⟩
  replace hs := hs.arr [1, 0] 2 (by decide)
  clear hK
  have hK := hs
  refine zA4 ⟨hK, ?_⟩
  refine zAb [3] ?_
  refine ⟨⟨_, rfl, ?_⟩, trivial⟩
  refine zAa rfl en54 (hs.calls (zFd _ _ _ _ _ _ w)) ?_
  clear hs
  rintro _ w ⟨rfl, hs⟩
  clear hK
  have hK := hs
  refine zA4 ⟨hK, ?_⟩
  refine zA6 4 rfl rfl (fun w hs => zA2 (v := .bool _) rfl) hK ?_
  refine zAs (by kernel_rfl) ?_
  clear hK
  refine zAf ?_
  refine zBg (v := .bool _) rfl rfl ?_
  exact ⟨_, rfl, zCp (by simp), hs.tail⟩
end Go.Proofs.YtdkgdjnbpjjfmaaGreatDoor
namespace Go.Proofs.YtdkgdjnbpjjfmaaGreatDoor
set_option linter.all false
open Go.RowKit Go.MapKept Go.Maps Go.Sort Go.Shelf Go.WideElems
variable {g w : World} {L M : List HP} {ad : Nat → Addr} {p q : Nat} {d : Dk}

/-- A reading that every value has. -/
def anyRD (_ : Value) : Option (DataW Unit × List MemPlace) := some (.nil, [])
theorem keysD_read {κ : Type} {enc : κ → Value} {k : TypeId} {lit : κ → Lit} : ∀ (xs : List MapEntry) (es : List (κ × Value)), xs.map kv = es.map (ekv enc) → (∀ x ∈ zAg es, keyOf Tryz.prog k (enc x) = some (lit x)) →
    (∀ x ∈ xs, ∃ y, Go.WideElems.rd Tryz.prog k anyRD x = some y) ∧ xs.map (fun x => (rg Tryz.prog k anyRD x).1) = (zAg es).map lit
  | [], [], _, _ => ⟨fun _ h => by simp at h, rfl⟩
  | [], _ :: _, h, _ => by simp at h
  | _ :: _, [], h, _ => by simp at h
  | a :: xs, e :: es, h, hk => by
    simp only [List.map_cons, List.cons.injEq] at h
    obtain ⟨h1, h2⟩ := h
    obtain ⟨i1, i2⟩ := keysD_read xs es h2 fun x hx => hk x (List.mem_cons_of_mem _ hx)
    have ha : a.key = enc e.1 := by have := congrArg Prod.fst h1; exact this
    have hr : Go.WideElems.rd Tryz.prog k anyRD a = some (lit e.1, .nil) := by
      simp [Go.WideElems.rd, ha, hk e.1 (List.mem_cons_self ..), anyRD]
    refine ⟨fun x hx => ?_, ?_⟩
    · rcases List.mem_cons.1 hx with rfl | hx
      · exact ⟨_, hr⟩
      · exact i1 x hx
    · simp only [List.map_cons, zAg, rg_of hr]
      exact congrArg _ i2
theorem keysD_owned {κ : Type} {W : World} {enc : κ → Value} {b : Nat} {es : List (κ × Value)} {k : TypeId} {lit : κ → Lit} (h : zE9 W enc b es) (hk : ∀ x ∈ zAg es, keyOf Tryz.prog k (enc x) = some (lit x)) (hn : es.length ≤ 1000000) :
    ∃ l : List (Lit × DataW Unit), W.ownsMap Tryz.prog k anyRD b es.length (.map l) ∧ (l.map (·.1)).Perm ((zAg es).map lit) := by
  obtain ⟨arr, clock, hb, he, hst⟩ := h
  have hlen : arr.size = es.length := by have := congrArg List.length he; simpa using this
  obtain ⟨h1, h2⟩ := keysD_read arr.toList es he hk
  refine ⟨(arr.toList.map (rg Tryz.prog k anyRD)).foldr DataW.insert [], ⟨arr, clock, hb, ⟨by unfold maxLen; omega, hst, h1⟩, by omega, rfl⟩, ?_⟩
  refine ((Go.WideShapes.sorted_perm _).map _).trans ?_
  rw [List.map_map, ← h2]
  exact List.Perm.refl _
theorem newSeqD_of_row {W w' : World} {T : TypeId} {v : Value} {n : Nat} {xs : List Value} (h : w'.ownsRow W.heap.size T 1 v n xs) (hb : Below W.heap.size W w') : NewSeq W xs (.returned v) w' := by
  obtain ⟨hx, ⟨rfl, hn⟩ | ⟨b, cap, cur, rfl, hg, hc, h1, h2, h3, h4⟩⟩ := h
  · subst hn
    have : xs = [] := List.eq_nil_of_length_eq_zero (by omega)
    subst this
    exact ⟨_, rfl, ⟨none, 0, 0, rfl, rfl, Nat.le_refl _, ⟨fun _ => rfl, fun _ h => by cases h⟩, .inl rfl⟩, hb, fun _ h => by cases h⟩
  · have hlt := lt_of_block hc
    refine ⟨_, rfl, ⟨some ⟨b, 0, none⟩, n, cap, rfl, by omega, h1, ⟨fun e => (by cases e), fun x hx => by cases hx; exact hlt⟩, .inr ⟨b, 0, cur, T, rfl, hc, by omega, fun i hi => ?_⟩⟩, hb, fun x hx => by cases hx; exact ⟨hg, hlt⟩⟩
    rw [← h4, List.getElem?_take_of_lt (by omega), Array.getElem?_toList, Nat.zero_add]

def bytesOf (l : List ByteArray) : List (List UInt8) := l.map (·.data.toList)
def sortB (l : List (List UInt8)) : List (List UInt8) := l.mergeSort fun x y => decide (x ≤ y)
/-- Texts in order. -/
def sortT (l : List ByteArray) : List ByteArray := (sortB (bytesOf l)).map fun x => ⟨x.toArray⟩
theorem perm_sortB {a b : List (List UInt8)} (h : a.Perm b) : sortB a = sortB b := by
  have ht : ∀ x y z : List UInt8, decide (x ≤ y) = true → decide (y ≤ z) = true → decide (x ≤ z) = true := fun x y z h1 h2 => by simp only [decide_eq_true_eq] at *; exact List.le_trans h1 h2
  have hl : ∀ x y : List UInt8, (decide (x ≤ y) || decide (y ≤ x)) = true := fun x y => by simp only [Bool.or_eq_true, decide_eq_true_eq]; exact List.le_total x y
  have p1 := (List.mergeSort_perm a (fun x y => decide (x ≤ y))).trans (h.trans (List.mergeSort_perm b (fun x y => decide (x ≤ y))).symm)
  have s1 := List.pairwise_mergeSort ht hl a
  have s2 := List.pairwise_mergeSort ht hl b
  exact p1.eq_of_pairwise (fun x y _ _ h1 h2 => by simp only [decide_eq_true_eq] at h1 h2; exact List.le_antisymm h1 h2) s1 s2
theorem sortsS (m : Nat) : AnyZ.SortsIn Tryz.prog Tryz.sorted59_ren Fence.wide m :=
  ⟨fun blk off cap ss W hH hblk hsz => callsIn_wide.2 (AnyM.slices_Sort_string Tryz.sort102 blk off cap ss W hH hblk hsz),
   fun p cap W => callsIn_wide.2 (AnyM.slices_Sort_string_none Tryz.sort102 p cap W)⟩
theorem keyOf_str {x : ByteArray} (h : x.size ≤ 1000000) : keyOf Tryz.prog 9 (Value.string x) = some (Lit.string x.data.toList) := by
  have : x.size ≤ maxLen := by unfold maxLen; omega
  simp [keyOf, mapKey, uz9, this]
theorem sortedS_any {W : World} {kb b : Nat} {es : List (ByteArray × Value)} (hc : W.cell? ⟨kb, 0, none⟩ = some (.map (some b))) (hkb : kb < W.heap.size) (h : zE9 W Value.string b es) (hk : ∀ x ∈ zAg es, x.size ≤ 1000000) (hn : es.length ≤ 1000000) :
    Calls Tryz.prog 59 #[.func (.func 103) #[] #[.pointer (some ⟨kb, 0, none⟩)]] W (NewSeq W (textsL (sortT (zAg es)))) := by
  obtain ⟨l, hown, hp⟩ := keysD_owned (k := 9) (lit := fun x : ByteArray => Lit.string x.data.toList) h (fun x hx => keyOf_str (hk x hx)) hn
  have hl : l.length = es.length := by have := hp.length_eq; simpa [zAg] using this
  have hseq : SeqGives Fence.wide 2 Tryz.prog 103 #[.pointer (some ⟨kb, 0, none⟩)] encStr (fun ss => ss.Perm (strKeys (.map l))) (Maps.size (.map l)) W :=
    AnyZ.keys_gives (ρ := Tryz.keys60_ren) { Tryz.keys60 with } Fence.wide _ trivial rfl (by omega) kb b _ _ W hkb hc hown
  have hS := AnyZ.sorted_in Tryz.sorted59 Fence.wide 5 trivial trivial trivial trivial rfl (by omega) (sortsS _) (enters_of Tryz.func102 (by kernel_rfl) rfl) 103 #[.pointer (some ⟨kb, 0, none⟩)] trivial (enters_of Tryz.func103 (by kernel_rfl) rfl) _ _ (by show l.length ≤ maxLen; unfold maxLen; omega) (by show l.length * 16 ≤ _; omega) W hseq
  refine (callsIn_wide.1 hS).mono ?_
  rintro e w' ⟨v, ss, rfl, hss, hrow, _, hb⟩
  have e1 : ss.Perm (bytesOf (zAg es)) := by
    refine hss.trans ?_
    have h2 : strKeys (.map l) = (l.map (·.1)).map Go.strOf := by simp [strKeys, List.map_map, Function.comp_def]
    rw [h2]
    refine (hp.map _).trans ?_
    rw [List.map_map]
    exact List.Perm.of_eq (by simp [Function.comp_def, Go.strOf, bytesOf])
  have e2 := perm_sortB e1
  unfold sortB at e2
  rw [e2] at hrow
  have e3 : ((bytesOf (zAg es)).mergeSort fun x y => decide (x ≤ y)).map encStr = textsL (sortT (zAg es)) := by simp [textsL, sortT, sortB, List.map_map, Function.comp_def]
  rw [e3] at hrow
  exact newSeqD_of_row hrow hb
theorem keysS_sl (hs : Mem g w L) {b : Nat} : Calls Tryz.prog 60 #[.map (some b)] w (Ret fun v w' => ∃ kb, v = .func (.func 103) #[] #[.pointer (some ⟨kb, 0, none⟩)] ∧ Mem g w' (cells kb [.map (some b)] 69 :: L)) := by
  refine (callsIn_wide.1 (Go.Proofs.AnyZ.keys_in Tryz.keys60 Fence.wide 5 trivial rfl (some b) w)).mono ?_
  rintro e w' ⟨rfl, rfl⟩
  exact ⟨_, rfl, _, rfl, hs.new [.map (some b)] _⟩
theorem sortedS_sl (hs : Mem g w L) {kb b i j : Nat} {es : List (ByteArray × Value)} (hi : L[i]? = some (cells kb [.map (some b)] 69)) (hj : L[j]? = some (mapC Value.string b es)) (hk : ∀ x ∈ zAg es, x.size ≤ 1000000) (hn : es.length ≤ 1000000) :
    Calls Tryz.prog 59 #[.func (.func 103) #[] #[.pointer (some ⟨kb, 0, none⟩)]] w (Ret fun v w' => ∃ a c, v = .slice a (sortT (zAg es)).length c ∧ Mem g w' (own (.slice a (sortT (zAg es)).length c) (textsL (sortT (zAg es))) :: L)) := by
  obtain ⟨F, hblk, _⟩ := hs.read hi
  have hc := hs.cellAt i hi (o := 0) (v := .map (some b)) rfl
  refine (newSeq_sl hs (sortedS_any hc (lt_of_block hblk) (hs.mapAt j hj) hk hn)).mono ?_
  rintro e w' ⟨v, rfl, a, c, rfl, h⟩
  rw [show (textsL (sortT (zAg es))).length = (sortT (zAg es)).length by simp [textsL]] at h ⊢
  exact ⟨_, rfl, a, c, rfl, h⟩
theorem sortT_len (l : List ByteArray) : (sortT l).length = l.length := by simp [sortT, sortB, bytesOf]
theorem list_sl (hs : Mem g w (zBv p d :: L)) (hk : ∀ x ∈ zAg d.names, x.size ≤ 1000000) (hn : d.names.length ≤ 1000000) : Calls Tryz.prog 28 #[.pointer (some ⟨p, 0, none⟩)] w
    (Ret fun v w' => ∃ a c, v = .slice a (sortT (zAg d.names)).length c ∧ Mem g w' (own (.slice a (sortT (zAg d.names)).length c) (textsL (sortT (zAg d.names))) :: zBv p d :: L)) := by
  obtain ⟨ho, mn, mk, sa, sc, ptr, hs⟩ := hs.openD
  rw [← nmV_keys (ptr := ptr)] at hk ⊢
  have hn2 : (nmV ptr d.names).length ≤ 1000000 := by simpa [nmV] using hn
  refine zAm Tryz.func28 rfl rfl ?_
  skip
  refine zA5 (zA1 ?_)
  refine zA rfl (zA2 (v := .slice _ _ _) rfl) ?_
  refine zA4 (zA5 (zA1 ?_))
  refine zA rfl (zA0 (v := .pointer (some _)) rfl) ?_
  refine zA rfl (zA8 rfl) ?_
  refine zA rfl (zA3 (o' := 1) zF7 rfl sz69 rfl rfl rfl) ?_
  refine zA rfl (zA7 uz69 rfl rfl (hs.cellAt 0 rfl rfl)) ?_
  refine zAa rfl en60 (keysS_sl hs) ?_
  clear hs
  rintro _ w ⟨kb, rfl, hs⟩
  refine zAa rfl en59 (sortedS_sl hs (i := 0) (j := 2) rfl rfl hk hn2) ?_
  clear hs
  rintro _ w ⟨a8, c8, rfl, hs⟩
  refine zA rfl (zA2 (v := .slice _ _ _) rfl) ?_
  refine zA4 ?_
  refine zAf ?_
  refine zBg (v := .slice _ _ _) rfl rfl ?_
  exact ⟨_, rfl, a8, c8, rfl, Mem.closeD1 ho (hs.drop 1)⟩
end Go.Proofs.YtdkgdjnbpjjfmaaGreatDoor
