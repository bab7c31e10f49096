/- The disk, over chunks: Append, Cut, Sync, Rename, Remove; Len, Synced, Read; Arm, Down, Calls. What is kept aside, in plain words. DERIVED: THE SHELF's CONTRACTS AT THIS DUMP, IN PLAIN WORDS (tools/lay-plain.mjs out of 'YtdkgdjnbpjjfmaaGreatDoorSh1S.lean', which tools/lay-shelf.mjs wrote): THE SAME DECLARATIONS UNDER THE SAME NAMES: 'import', 'namespace', 'open', 'def', 'theorem' AND NOTHING ELSE: no command of the shelf's: FOR A HAND-IN. Each laying: the table of numbers ('.._ren') and one theorem, a field a fact of the dump's own or the kernel's comparison; each contract: ONE APPLICATION. maps.Clone, slices.SortFunc, slices.Contains over files: over chunks. The disk, over chunks: SyncDir, Crash. The disk, over chunks: Crash. Chapter 4: the examples; what a test of an error tells. The law DiskKeeps: what was synced, under a name that was synced, is there behind any crash. The law DiskCuts: what is cut is cut, synced at once. The law DiskDown: while the power is gone nothing is changed or told. The law DiskRooms: all files together have at most the room. What a Write of what is kept aside leaves, in plain words; whatever the power does. Names with what is kept under each, in plain words: Writes, crashes. Names with what stands under each, byte by byte: Writes, bytes laid behind, cuts, crashes. What is kept aside: Write, Read, over chunks. The remote log: its chunk; what it has when it is opened. The remote log: Open, Snap, Append; whatever the power does. -/
import Derived.Test.YtdkgdjnbpjjfmaaGreatDoorB5
import Derived.Test.YtdkgdjnbpjjfmaaGreatDoorB2
import Derived.Test.YtdkgdjnbpjjfmaaGreatDoorB3
import Derived.Shelf.SlMaps.Clone
import Derived.Shelf.SlSortCmp.Whole1
import Derived.Shelf.SlSortCmp.NoneTotal
import Derived.Shelf.SortM.Plain
import Derived.LaidEql
import Derived.Test.YtdkgdjnbpjjfmaaGreatDoorB1
namespace Go.Proofs.YtdkgdjnbpjjfmaaGreatDoor
set_option linter.all false
open Go.RowKit
attribute [local irreducible] zAq
variable {g w : World} {L M : List HP} {ad : Nat → Addr} {p mn mk sc : Nat} {sa : Option Addr} {d : Dk} {ptr : List (Nat × Nat)}

theorem Mem.closeF2 {b : Nat} {f : Fl} {i s : Int} {a : Option Addr} {n c : Nat} {l : List Value} (hi : i = f.id) (hn : n = f.b.length) (hs' : s = f.syn) (hl : l = zAm f.b) (hs : Mem g w (cells b [.int .i64 i, .slice a n c, .int .i64 s] 94 :: own (.slice a n c) l :: L)) : Mem g w (fiC b f :: L) := by
  subst hi hn hs' hl; exact hs.closeF
/-- One file is opened. -/
theorem Mem.openFile {i b : Nat} {f : Fl} (hs : Mem g w (zC9 p d mn mk sa sc ptr ++ L)) (hb : zB5 ptr i = some b) (hf : zB5 d.fs i = some f) : ∃ a c, f.b.length ≤ c ∧ Mem g w (cells b [.int .i64 f.id, .slice a f.b.length c, .int .i64 f.syn] 94 :: own (.slice a f.b.length c) (zAm f.b) :: cells p (diskL mn mk d sa sc) 72 :: mapS mn (nmV ptr d.names) :: mapS mk (nmV ptr d.kept) :: zFp 3 (.slice sa d.changes.length sc) (d.changes.map (chgV ptr)) :: famX fiC (· = i) ptr d.fs :: L) := by
  have h1 := hs.famTake (R := fiC) 4 rfl hb hf; obtain ⟨a, c, h2⟩ := h1.openF; exact ⟨a, c, (h2.ownForm 1 rfl).2.1, h2⟩
theorem Mem.shutFile {i b : Nat} {f : Fl} {A B C D : HP} {fs : List (Nat × Fl)} (hb : zB5 ptr i = some b) (hs : Mem g w (fiC b f :: A :: B :: C :: D :: famX fiC (· = i) ptr fs :: L)) : Mem g w (A :: B :: C :: D :: famC fiC ptr (zCd fs i f) :: L) := by
  have h1 := Mem.famPut (R := fiC) (k := i) hs 4 rfl (fun _ h => h); rw [zEj hb] at h1; exact h1

def Dk.lenR (n : ByteArray) (d : Dk) : Nat × Nat := match d.file n with
  | (_, some i) => (0, (d.fl i).b.length)
  | (c, none) => (c, 0)
def Dk.synR (n : ByteArray) (d : Dk) : Nat × Nat := match d.file n with
  | (_, some i) => (0, (d.fl i).syn)
  | (c, none) => (c, 0)
theorem len_sl (hE : ErrK ad g) (hs : Mem g w (zBz p d :: L)) (n : ByteArray) {k m : Nat} (hk : d.lenR n = (k, m)) : Calls Tryz.prog 15 #[.pointer (some ⟨p, 0, none⟩), .string n] w (Ret fun v w' => v = .tuple #[.int .i64 m, zAq ad k] ∧ Mem g w' (zBz p d :: L)) := by
  obtain ⟨ho, mn, mk, sa, sc, ptr, hs⟩ := hs.openD; refine zAo Tryz.func15 rfl rfl ?_
  skip
  refine zA6 (zA1 ?_); refine zA rfl (zA2 (v := .int .i64 _) rfl) ?_; refine zA rfl (zA2 (v := .nilIface) rfl) ?_; refine zA4 (zA6 (zA1 ?_)); refine zA rfl (zA0 (v := .pointer (some _)) rfl) ?_; refine zA rfl (zA0 (v := .string _) rfl) ?_; refine zAb rfl en44 (file_sl hE ho n hs) ?_; clear hs; rintro _ w ((⟨c, hc, h0, hr, rfl, hs⟩) | (⟨i, b, hr, hki, hb, hf, rfl, hs⟩))
  ·
   refine zA rfl (zA0 (v := .tuple _) rfl) ?_; refine zA rfl (zAa (v := .pointer none) rfl rfl) ?_; refine zA rfl (zAa (v := zAq ad _) rfl rfl) ?_; refine zA rfl (zA2 (v := .pointer none) rfl) ?_; refine zA rfl (zA2 (v := zAq ad _) rfl) ?_; refine zA4 ?_; refine zA6 ?_; refine zA6 (zA1 ?_); refine zA rfl (zA0 (v := zAq ad _) rfl) ?_; refine zA rfl (zAt (ad := ad) rfl) ?_; refine zA4 ?_; refine zBb rfl (by simp [h0]) ?_; refine zA6 (zA1 ?_); refine zA rfl (zA0 (v := zAq ad _) rfl) ?_; refine zA rfl (zA2 (v := .int .i64 _) rfl) ?_; refine zA rfl (zA2 (v := zAq ad _) rfl) ?_; refine zA4 ?_; refine zAg ?_; refine res2 (v := .int .i64 _) (v2 := zAq ad _) rfl rfl rfl ?_
   simp only [Dk.lenR, hr] at hk
   cases hk
   exact ⟨_, rfl, rfl, Mem.closeD ho hs⟩
  ·
   refine zA rfl (zA0 (v := .tuple _) rfl) ?_; refine zA rfl (zAa (v := .pointer (some _)) rfl rfl) ?_; refine zA rfl (zAa (v := .nilIface) rfl rfl) ?_; refine zA rfl (zA2 (v := .pointer (some _)) rfl) ?_; refine zA rfl (zA2 (v := .nilIface) rfl) ?_; refine zA4 ?_; refine zA6 ?_; refine zA6 (zA1 ?_); refine zA rfl (zA0 (v := .nilIface) rfl) ?_; refine zA rfl (zBf rfl) ?_; refine zA4 ?_; refine zAx rfl (rfl) ?_; refine zAf ?_; refine zA6 ?_; obtain ⟨fa, fc, _, hcell, _⟩ := hs.flCells 4 rfl hb hf; refine zA1 ?_; refine zA rfl (zA0 (v := .pointer (some _)) rfl) ?_; refine zA rfl (zA7 rfl) ?_; refine zA rfl (zA3 (o' := 1) uz94 rfl sz23 rfl rfl rfl) ?_; refine zA rfl (zA8 zC0 rfl rfl hcell) ?_
   refine zA rfl (zB2 zC0 rfl) ?_; refine zA rfl (zA2 (v := .int .i64 _) rfl) ?_; refine zA rfl (zA2 (v := .nilIface) rfl) ?_; refine zA4 ?_; refine zAg ?_; refine res2 (v := .int .i64 _) (v2 := .nilIface) rfl rfl rfl ?_; simp only [Dk.lenR, hr] at hk
   cases hk
   exact ⟨_, rfl, by rw [zB6], Mem.closeD ho hs⟩
theorem read_sl (hE : ErrK ad g) (hs : Mem g w (zBz p d :: L)) (n : ByteArray) {off m : Int} (h1 : zCp off) (h2 : zCp m) {k : Nat} {l : List UInt8} (hk : d.readR n off m = (k, l)) : Calls Tryz.prog 76 #[.pointer (some ⟨p, 0, none⟩), .string n, .int .i64 off, .int .i64 m] w (Ret fun v w' => ∃ a c, v = .tuple #[.slice a l.length c, zAq ad k] ∧ Mem g w' (own (.slice a l.length c) (zAm l) :: zBz p d :: L)) := by
  obtain ⟨ho, mn, mk, sa, sc, ptr, hs⟩ := hs.openD; have h1a := h1.1; have h1b := h1.2; have h2a := h2.1; have h2b := h2.2; refine zAo Tryz.func76 rfl rfl ?_
  skip
  refine zA6 (zA1 ?_); refine zA rfl (zA2 (v := .slice _ _ _) rfl) ?_; refine zA rfl (zA2 (v := .nilIface) rfl) ?_; refine zA4 (zA6 (zA1 ?_)); refine zA rfl (zA0 (v := .pointer (some _)) rfl) ?_; refine zA rfl (zA0 (v := .string _) rfl) ?_; refine zAb rfl en44 (file_sl hE ho n hs) ?_; clear hs; rintro _ w ((⟨c, hc, h0, hr, rfl, hs⟩) | (⟨i, b, hr, hki, hb, hf, rfl, hs⟩))
  ·
   refine zA rfl (zA0 (v := .tuple _) rfl) ?_; refine zA rfl (zAa (v := .pointer none) rfl rfl) ?_; refine zA rfl (zAa (v := zAq ad _) rfl rfl) ?_; refine zA rfl (zA2 (v := .pointer none) rfl) ?_; refine zA rfl (zA2 (v := zAq ad _) rfl) ?_; refine zA4 ?_; refine zA6 ?_; refine zA6 (zA1 ?_); refine zA rfl (zA0 (v := zAq ad _) rfl) ?_; refine zA rfl (zAt (ad := ad) rfl) ?_; refine zA4 ?_; refine zBb rfl (by simp [h0]) ?_; refine zA6 (zA1 ?_); refine zA rfl (zA0 (v := zAq ad _) rfl) ?_; refine zA rfl (zA2 (v := .slice _ _ _) rfl) ?_; refine zA rfl (zA2 (v := zAq ad _) rfl) ?_; refine zA4 ?_; refine zAg ?_; refine res2 (v := .slice _ _ _) (v2 := zAq ad _) rfl rfl rfl ?_
   simp only [Dk.readR, hr] at hk
   cases hk
   exact ⟨_, rfl, none, 0, rfl, (Mem.closeD ho hs).addE (zDo _)⟩
  ·
   refine zA rfl (zA0 (v := .tuple _) rfl) ?_; refine zA rfl (zAa (v := .pointer (some _)) rfl rfl) ?_; refine zA rfl (zAa (v := .nilIface) rfl rfl) ?_; refine zA rfl (zA2 (v := .pointer (some _)) rfl) ?_; refine zA rfl (zA2 (v := .nilIface) rfl) ?_; refine zA4 ?_; refine zA6 ?_; refine zA6 (zA1 ?_); refine zA rfl (zA0 (v := .nilIface) rfl) ?_; refine zA rfl (zBf rfl) ?_; refine zA4 ?_; refine zAx rfl (rfl) ?_; refine zAf ?_; refine zA6 ?_; refine zA6 ?_; obtain ⟨fa, fc, hfc, hs⟩ := hs.openFile hb hf; have hlen := (ho.fid _ _ hf).2.2; refine zA1 ?_; refine zA rfl (zA0 (v := .int .i64 _) rfl) ?_; refine zA rfl (zB7 rfl rfl) ?_; refine zA rfl (zA0 (v := .bool _) rfl) ?_
   refine zBa (t := _) (d := 23) rfl ?_ ?_
   ·
    intro h22; have g22 := of_decide_eq_true h22; refine zAc rfl rfl rfl h22 ?_; refine zAc rfl rfl rfl h22 ?_; refine zA rfl (zAj (v := .bool _) rfl h22 rfl) ?_; refine zA rfl (zA0 (v := .bool _) rfl) ?_; refine zAc rfl rfl rfl rfl ?_; refine zAc rfl rfl rfl rfl ?_; refine zAc rfl rfl rfl rfl ?_; refine zAc rfl rfl rfl rfl ?_; refine zAc rfl rfl rfl rfl ?_; refine zAc rfl rfl rfl rfl ?_; refine zAc rfl rfl rfl rfl ?_; refine zA rfl (zAj (v := .bool _) rfl rfl rfl) ?_; refine zA rfl (zA0 (v := .bool _) rfl) ?_; refine zAc rfl rfl rfl rfl ?_; refine zAc rfl rfl rfl rfl ?_; refine zAc rfl rfl rfl rfl ?_; refine zAc rfl rfl rfl rfl ?_; refine zAc rfl rfl rfl rfl ?_
    refine zAc rfl rfl rfl rfl ?_; refine zAc rfl rfl rfl rfl ?_; refine zAc rfl rfl rfl rfl ?_; refine zAc rfl rfl rfl rfl ?_; refine zA rfl (zAj (v := .bool _) rfl rfl rfl) ?_; refine zA4 ?_; refine zBb rfl rfl ?_; refine zA6 ?_; have hs2 := Mem.shutFile hb (Mem.closeF2 rfl rfl rfl rfl hs); rw [zEj hf] at hs2; clear hs; have hs := hs2; clear hs2; refine zAy zBv hs ?_; intro w tr hK; replace hs := tr _ hs; clear tr; refine zA5 0 rfl rfl (fun w hs => zA8 zCq rfl rfl (hE.cellW hs 105 (by decide) rfl)) hK ?_; refine zA5 1 rfl rfl (fun w hs => zA2 (v := .slice _ _ _) rfl) hK ?_; refine zA5 2 rfl rfl (fun w hs => zA2 (v := zAq ad _) rfl) hK ?_; refine zAp (by kernel_rfl) ?_; clear hK
    refine zAg ?_; refine res2 (v := .slice _ _ _) (v2 := zAq ad _) rfl rfl rfl ?_
    have e : d.readR n off m = (105, []) := by simp only [Dk.readR, hr]; rw [if_pos (by omega)]
    rw [e] at hk
    cases hk
    exact ⟨_, rfl, none, 0, rfl, (Mem.closeD ho hs).addE (zDo _)⟩
   ·
    intro h22; have g22 := of_decide_eq_false h22; refine zAi rfl rfl h22 ?_; refine zA rfl (zA0 (v := .int .i64 _) rfl) ?_; refine zAi rfl rfl h22 ?_; refine zA rfl (zB7 rfl rfl) ?_; refine zA rfl (zAk (v := .bool _) rfl h22 rfl) ?_; refine zA rfl (zA0 (v := .bool _) rfl) ?_; refine zBa (t := _) (d := 27) rfl ?_ ?_
    ·
     intro h25; have g25 := of_decide_eq_true h25; refine zAc rfl rfl rfl h25 ?_; refine zAc rfl rfl rfl h25 ?_; refine zAc rfl rfl rfl h25 ?_; refine zAc rfl rfl rfl h25 ?_; refine zAc rfl rfl rfl h25 ?_; refine zAc rfl rfl rfl h25 ?_; refine zAc rfl rfl rfl h25 ?_; refine zA rfl (zAj (v := .bool _) rfl h25 rfl) ?_; refine zA rfl (zA0 (v := .bool _) rfl) ?_; refine zAc rfl rfl rfl rfl ?_; refine zAc rfl rfl rfl rfl ?_; refine zAc rfl rfl rfl rfl ?_; refine zAc rfl rfl rfl rfl ?_; refine zAc rfl rfl rfl rfl ?_; refine zAc rfl rfl rfl rfl ?_; refine zAc rfl rfl rfl rfl ?_; refine zAc rfl rfl rfl rfl ?_; refine zAc rfl rfl rfl rfl ?_; refine zA rfl (zAj (v := .bool _) rfl rfl rfl) ?_
     refine zA4 ?_; refine zBb rfl rfl ?_; refine zA6 ?_; have hs2 := Mem.shutFile hb (Mem.closeF2 rfl rfl rfl rfl hs); rw [zEj hf] at hs2; clear hs; have hs := hs2; clear hs2; refine zAy zBv hs ?_; intro w tr hK; replace hs := tr _ hs; clear tr; refine zA5 0 rfl rfl (fun w hs => zA8 zCq rfl rfl (hE.cellW hs 105 (by decide) rfl)) hK ?_; refine zA5 1 rfl rfl (fun w hs => zA2 (v := .slice _ _ _) rfl) hK ?_; refine zA5 2 rfl rfl (fun w hs => zA2 (v := zAq ad _) rfl) hK ?_; refine zAp (by kernel_rfl) ?_; clear hK; refine zAg ?_; refine res2 (v := .slice _ _ _) (v2 := zAq ad _) rfl rfl rfl ?_
     have e : d.readR n off m = (105, []) := by simp only [Dk.readR, hr]; rw [if_pos (by omega)]
     rw [e] at hk
     cases hk
     exact ⟨_, rfl, none, 0, rfl, (Mem.closeD ho hs).addE (zDo _)⟩
    ·
     intro h25; have g25 := of_decide_eq_false h25; refine zAi rfl rfl h25 ?_; refine zA rfl (zA0 (v := .int .i64 _) rfl) ?_; refine zAi rfl rfl h25 ?_; refine zA rfl (zA0 (v := .pointer (some _)) rfl) ?_; refine zAi rfl rfl h25 ?_; refine zA rfl (zA7 rfl) ?_; refine zAi rfl rfl h25 ?_; refine zA rfl (zA3 (o' := 1) uz94 rfl sz23 rfl rfl rfl) ?_; refine zAi rfl rfl h25 ?_; refine zA rfl (zA8 zC0 rfl rfl (hs.cellAt 0 rfl rfl)) ?_; refine zAi rfl rfl h25 ?_; refine zA rfl (zB2 zC0 rfl) ?_; refine zAi rfl rfl h25 ?_; refine zA rfl (zBi rfl rfl) ?_; refine zA rfl (zAk (v := .bool _) rfl h25 rfl) ?_; refine zA rfl (zA0 (v := .bool _) rfl) ?_; refine zBa (t := _) (d := 36) rfl ?_ ?_
     ·
      intro h34; have g34 := of_decide_eq_true h34; refine zAc rfl rfl rfl h34 ?_; refine zAc rfl rfl rfl h34 ?_; refine zAc rfl rfl rfl h34 ?_; refine zAc rfl rfl rfl h34 ?_; refine zAc rfl rfl rfl h34 ?_; refine zAc rfl rfl rfl h34 ?_; refine zAc rfl rfl rfl h34 ?_; refine zAc rfl rfl rfl h34 ?_; refine zAc rfl rfl rfl h34 ?_; refine zA rfl (zAj (v := .bool _) rfl h34 rfl) ?_; refine zA4 ?_; refine zBb rfl rfl ?_; refine zA6 ?_; have hs2 := Mem.shutFile hb (Mem.closeF2 rfl rfl rfl rfl hs); rw [zEj hf] at hs2; clear hs; have hs := hs2; clear hs2; refine zAy zBv hs ?_; intro w tr hK; replace hs := tr _ hs; clear tr
      refine zA5 0 rfl rfl (fun w hs => zA8 zCq rfl rfl (hE.cellW hs 105 (by decide) rfl)) hK ?_; refine zA5 1 rfl rfl (fun w hs => zA2 (v := .slice _ _ _) rfl) hK ?_; refine zA5 2 rfl rfl (fun w hs => zA2 (v := zAq ad _) rfl) hK ?_; refine zAp (by kernel_rfl) ?_; clear hK; refine zAg ?_; refine res2 (v := .slice _ _ _) (v2 := zAq ad _) rfl rfl rfl ?_
      have e : d.readR n off m = (105, []) := by simp only [Dk.readR, hr]; rw [if_pos (by omega)]
      rw [e] at hk
      cases hk
      exact ⟨_, rfl, none, 0, rfl, (Mem.closeD ho hs).addE (zDo _)⟩
     ·
      intro h34; have g34 := of_decide_eq_false h34; refine zAi rfl rfl h34 ?_; refine zA rfl (zA0 (v := .int .i64 _) rfl) ?_; refine zAi rfl rfl h34 ?_; refine zA rfl (zA0 (v := .pointer (some _)) rfl) ?_; refine zAi rfl rfl h34 ?_; refine zA rfl (zA7 rfl) ?_; refine zAi rfl rfl h34 ?_; refine zA rfl (zA3 (o' := 1) uz94 rfl sz23 rfl rfl rfl) ?_; refine zAi rfl rfl h34 ?_; refine zA rfl (zA8 zC0 rfl rfl (hs.cellAt 0 rfl rfl)) ?_; refine zAi rfl rfl h34 ?_; refine zA rfl (zB2 zC0 rfl) ?_; refine zAi rfl rfl h34 ?_; refine zA rfl (zA0 (v := .int .i64 _) rfl) ?_; refine zAi rfl rfl h34 ?_; refine zA rfl (zCg rfl rfl rfl (inI (by omega) (by omega))) ?_; refine zAi rfl rfl h34 ?_
      refine zA rfl (zBi rfl rfl) ?_; refine zA rfl (zAk (v := .bool _) rfl h34 rfl) ?_; refine zA4 ?_; refine zB8 rfl ?_ ?_
      ·
       intro h45; have g45 := of_decide_eq_true h45; refine zA6 ?_; have hs2 := Mem.shutFile hb (Mem.closeF2 rfl rfl rfl rfl hs); rw [zEj hf] at hs2; clear hs; have hs := hs2; clear hs2; refine zAy zBv hs ?_; intro w tr hK; replace hs := tr _ hs; clear tr; refine zA5 0 rfl rfl (fun w hs => zA8 zCq rfl rfl (hE.cellW hs 105 (by decide) rfl)) hK ?_; refine zA5 1 rfl rfl (fun w hs => zA2 (v := .slice _ _ _) rfl) hK ?_; refine zA5 2 rfl rfl (fun w hs => zA2 (v := zAq ad _) rfl) hK ?_; refine zAp (by kernel_rfl) ?_; clear hK; refine zAg ?_; refine res2 (v := .slice _ _ _) (v2 := zAq ad _) rfl rfl rfl ?_
       have e : d.readR n off m = (105, []) := by simp only [Dk.readR, hr]; rw [if_pos (by omega)]
       rw [e] at hk
       cases hk
       exact ⟨_, rfl, none, 0, rfl, (Mem.closeD ho hs).addE (zDo _)⟩
      ·
       intro h45; have g45 := of_decide_eq_false h45; refine zAf ?_; refine zA6 (zA1 ?_); refine zA rfl (zA0 (v := .pointer (some _)) rfl) ?_; refine zA rfl (zA7 rfl) ?_; refine zA rfl (zA3 (o' := 1) uz94 rfl sz23 rfl rfl rfl) ?_; refine zA rfl (zA8 zC0 rfl rfl (hs.cellAt 0 rfl rfl)) ?_; refine zA rfl (zA0 (v := .int .i64 _) rfl) ?_; refine zA rfl (zA0 (v := .int .i64 _) rfl) ?_; refine zA rfl (zA0 (v := .int .i64 _) rfl) ?_; refine zA rfl (zAs rfl rfl rfl (inI (by omega) (by omega))) ?_; refine zA rfl (zF1 zC0 sz5 rfl rfl rfl (lo := off.toNat) (hi := off.toNat + m.toNat) (by omega) (by omega) (by omega) (by omega)) ?_
       refine zAb rfl en46 (zFh hs (l := ((d.fl i).b.take (off.toNat + m.toNat)).drop off.toNat) ((hs.rdOwn 1 rfl).subB (by omega) (by omega)) (by simp; omega)) ?_; clear hs; rintro _ w ⟨a57, c57, rfl, hs⟩; refine zA rfl (zA2 (v := .slice _ _ _) rfl) ?_; refine zA rfl (zA2 (v := .nilIface) rfl) ?_; refine zA4 ?_; refine zAg ?_; refine res2 (v := .slice _ _ _) (v2 := .nilIface) rfl rfl rfl ?_
       have e : d.readR n off m = (0, ((d.fl i).b.take (off.toNat + m.toNat)).drop off.toNat) := by simp only [Dk.readR, hr]; rw [if_neg (by omega)]
       rw [e] at hk
       cases hk
       rw [zAu] at hs ⊢; refine ⟨_, rfl, a57, c57, by rw [zB6], ?_⟩; have hs2 := Mem.shutFile hb (Mem.closeF2 (L := _ :: _ :: _ :: _ :: _ :: own (.slice a57 _ c57) _ :: L) rfl rfl rfl rfl (hs.arr [1, 2, 3, 4, 5, 6, 7, 0] 8 (by decide))); rw [zEj hf] at hs2; exact (Mem.closeD (L := own (.slice a57 _ c57) _ :: L) ho hs2).arr [1, 0] 2 (by decide)

/-! ### what changes -/
theorem zFs (hE : ErrK ad g) (hs : Mem g w (zBz p d :: L)) (hcl : d.calls < 1000000) (n : ByteArray) {k : Nat} {d2 : Dk} (hk : d.sync n = (k, d2)) : Calls Tryz.prog 39 #[.pointer (some ⟨p, 0, none⟩), .string n] w (Ret fun v w' => v = zAq ad k ∧ Mem g w' (zBz p d2 :: L)) := by
  obtain ⟨ho, mn, mk, sa, sc, ptr, hs⟩ := hs.openD; obtain ⟨c0, o, d1, hfd⟩ : ∃ c0 o d1, d.find n = (c0, o, d1) := ⟨_, _, _, rfl⟩; have hb := d.begin_same; rw [← Dk.find_dk hfd] at hb; have ho1 := ho.find hfd; refine zAo Tryz.func39 rfl rfl ?_
  skip
  refine zA6 (zA1 ?_); refine zA rfl (zA2 (v := .nilIface) rfl) ?_; refine zA4 (zA6 (zA1 ?_)); refine zA rfl (zA0 (v := .pointer (some _)) rfl) ?_; refine zA rfl (zA0 (v := .string _) rfl) ?_; refine zAb rfl en45 (find_sl hE ho n hs hfd) ?_; clear hs; rintro _ w ((⟨c, hc, h0, hr, rfl, hs⟩) | (⟨i, b, hr, hki, hb2, hf, rfl, hs⟩))
  ·
   refine zA rfl (zA0 (v := .tuple _) rfl) ?_; refine zA rfl (zAa (v := .pointer none) rfl rfl) ?_; refine zA rfl (zAa (v := zAq ad _) rfl rfl) ?_; refine zA rfl (zA2 (v := .pointer none) rfl) ?_; refine zA rfl (zA2 (v := zAq ad _) rfl) ?_; refine zA4 ?_; refine zA6 ?_; refine zA6 (zA1 ?_); refine zA rfl (zA0 (v := zAq ad _) rfl) ?_; refine zA rfl (zAt (ad := ad) rfl) ?_; refine zA4 ?_; refine zBb rfl (by simp [h0]) ?_; refine zA6 (zA1 ?_); refine zA rfl (zA0 (v := zAq ad _) rfl) ?_; refine zA rfl (zA2 (v := zAq ad _) rfl) ?_; refine zA4 ?_; refine zAg ?_; refine zBl (v := zAq ad _) rfl rfl ?_
   cases hr
   simp only [Dk.sync, hfd] at hk
   cases hk
   exact ⟨_, rfl, rfl, Mem.closeD ho1 hs⟩
  ·
   refine zA rfl (zA0 (v := .tuple _) rfl) ?_; refine zA rfl (zAa (v := .pointer (some _)) rfl rfl) ?_; refine zA rfl (zAa (v := .nilIface) rfl rfl) ?_; refine zA rfl (zA2 (v := .pointer (some _)) rfl) ?_; refine zA rfl (zA2 (v := .nilIface) rfl) ?_; refine zA4 ?_; refine zA6 ?_; refine zA6 (zA1 ?_); refine zA rfl (zA0 (v := .nilIface) rfl) ?_; refine zA rfl (zBf rfl) ?_; refine zA4 ?_; refine zAx rfl (rfl) ?_; refine zAf ?_; refine zA6 ?_
   cases hr
   simp only [Dk.sync, hfd] at hk
   cases hk
   obtain ⟨fa, fc, hfc, hs⟩ := hs.openFile hb2 hf; have hfl := ho1.fid _ _ hf; refine zA1 ?_; refine zA rfl (zA0 (v := .pointer (some _)) rfl) ?_; refine zA rfl (zA0 (v := .pointer (some _)) rfl) ?_; refine zA rfl (zA7 rfl) ?_; refine zA rfl (zA3 (o' := 1) uz94 rfl sz23 rfl rfl rfl) ?_; refine zA rfl (zA8 zC0 rfl rfl (hs.cellAt 0 rfl rfl)) ?_; refine zA rfl (zB2 zC0 rfl) ?_; refine zA rfl (zA7 rfl) ?_; refine zA rfl (zA3 (o' := 2) uz94 rfl sz3 rfl rfl rfl) ?_; refine zAr (v := .int .i64 _) hs 0 rfl sz3 rfl rfl rfl rfl ?_; clear hs; intro w hs
   try simp only [List.set_cons_succ, List.set_cons_zero] at hs
   refine zA4 (zA6 (zA1 ?_)); refine zA rfl (zA0 (v := .pointer (some _)) rfl) ?_; refine zA rfl (zA7 rfl) ?_; refine zA rfl (zA3 (o' := 7) uz72 rfl sz3 rfl rfl rfl) ?_; refine zA rfl (zA8 uz3 rfl rfl (hs.cellAt 2 rfl rfl)) ?_; refine zA rfl (zAs rfl rfl rfl (inI (by omega) (by omega))) ?_; refine zA rfl (zA7 rfl) ?_; refine zA rfl (zA3 (o' := 7) uz72 rfl sz3 rfl rfl rfl) ?_; refine zAr (v := .int .i64 _) hs 2 rfl sz3 rfl rfl rfl rfl ?_; clear hs; intro w hs
   try simp only [List.set_cons_succ, List.set_cons_zero] at hs
   refine zA4 (zA6 (zA1 ?_)); refine zA rfl (zA2 (v := .nilIface) rfl) ?_; refine zA4 ?_; refine zAg ?_; refine zBl (v := .nilIface) rfl rfl ?_; exact ⟨_, rfl, (zB6 ad).symm, Mem.closeD (ho1.setF hki ⟨hfl.1, Nat.le_refl _, hfl.2.2⟩) (Mem.shutFile (L := L) hb2 (Mem.closeF2 (f := { d1.fl i with syn := (d1.fl i).b.length }) rfl rfl rfl rfl hs))⟩
theorem cut_sl (hE : ErrK ad g) (hs : Mem g w (zBz p d :: L)) (hcl : d.calls < 1000000) (n : ByteArray) {m : Int} (hm : zCp m) {k : Nat} {d2 : Dk} (hk : d.cut n m = (k, d2)) : Calls Tryz.prog 18 #[.pointer (some ⟨p, 0, none⟩), .string n, .int .i64 m] w (Ret fun v w' => v = zAq ad k ∧ Mem g w' (zBz p d2 :: L)) := by
  obtain ⟨ho, mn, mk, sa, sc, ptr, hs⟩ := hs.openD; obtain ⟨c0, o, d1, hfd⟩ : ∃ c0 o d1, d.find n = (c0, o, d1) := ⟨_, _, _, rfl⟩; have hb := d.begin_same; rw [← Dk.find_dk hfd] at hb; have ho1 := ho.find hfd; refine zAo Tryz.func18 rfl rfl ?_
  skip
  refine zA6 (zA1 ?_); refine zA rfl (zA2 (v := .nilIface) rfl) ?_; refine zA4 (zA6 (zA1 ?_)); refine zA rfl (zA0 (v := .pointer (some _)) rfl) ?_; refine zA rfl (zA0 (v := .string _) rfl) ?_; refine zAb rfl en45 (find_sl hE ho n hs hfd) ?_; clear hs; rintro _ w ((⟨c, hc, h0, hr, rfl, hs⟩) | (⟨i, b, hr, hki, hb2, hf, rfl, hs⟩))
  ·
   refine zA rfl (zA0 (v := .tuple _) rfl) ?_; refine zA rfl (zAa (v := .pointer none) rfl rfl) ?_; refine zA rfl (zAa (v := zAq ad _) rfl rfl) ?_; refine zA rfl (zA2 (v := .pointer none) rfl) ?_; refine zA rfl (zA2 (v := zAq ad _) rfl) ?_; refine zA4 ?_; refine zA6 ?_; refine zA6 (zA1 ?_); refine zA rfl (zA0 (v := zAq ad _) rfl) ?_; refine zA rfl (zAt (ad := ad) rfl) ?_; refine zA4 ?_; refine zBb rfl (by simp [h0]) ?_; refine zA6 (zA1 ?_); refine zA rfl (zA0 (v := zAq ad _) rfl) ?_; refine zA rfl (zA2 (v := zAq ad _) rfl) ?_; refine zA4 ?_; refine zAg ?_; refine zBl (v := zAq ad _) rfl rfl ?_
   cases hr
   simp only [Dk.cut, hfd] at hk
   cases hk
   exact ⟨_, rfl, rfl, Mem.closeD ho1 hs⟩
  ·
   refine zA rfl (zA0 (v := .tuple _) rfl) ?_; refine zA rfl (zAa (v := .pointer (some _)) rfl rfl) ?_; refine zA rfl (zAa (v := .nilIface) rfl rfl) ?_; refine zA rfl (zA2 (v := .pointer (some _)) rfl) ?_; refine zA rfl (zA2 (v := .nilIface) rfl) ?_; refine zA4 ?_; refine zA6 ?_; refine zA6 (zA1 ?_); refine zA rfl (zA0 (v := .nilIface) rfl) ?_; refine zA rfl (zBf rfl) ?_; refine zA4 ?_; refine zAx rfl (rfl) ?_; refine zAf ?_; refine zA6 ?_; refine zA6 ?_
   cases hr
   simp only [Dk.cut, hfd] at hk; obtain ⟨fa, fc, hfc, hs⟩ := hs.openFile hb2 hf; have hfl := ho1.fid _ _ hf; refine zA1 ?_; refine zA rfl (zA0 (v := .int .i64 _) rfl) ?_; refine zA rfl (zB7 rfl rfl) ?_; refine zA rfl (zA0 (v := .bool _) rfl) ?_; refine zBa (t := _) (d := 20) rfl ?_ ?_
   ·
    intro h19; have g19 := of_decide_eq_true h19; refine zAc rfl rfl rfl h19 ?_; refine zAc rfl rfl rfl h19 ?_; refine zAc rfl rfl rfl h19 ?_; refine zAc rfl rfl rfl h19 ?_; refine zAc rfl rfl rfl h19 ?_; refine zAc rfl rfl rfl h19 ?_; refine zAc rfl rfl rfl h19 ?_; refine zA rfl (zAj (v := .bool _) rfl h19 rfl) ?_; refine zA4 ?_; refine zBb rfl rfl ?_; refine zA6 ?_; have hs2 := Mem.shutFile hb2 (Mem.closeF2 rfl rfl rfl rfl hs); rw [zEj hf] at hs2; clear hs; have hs := hs2; clear hs2; refine zA1 ?_; refine zA rfl (zA8 zCq rfl rfl (hE.cellW hs 105 (by decide) rfl)) ?_; refine zA rfl (zA2 (v := zAq ad _) rfl) ?_; refine zA4 ?_; refine zAg ?_; refine zBl (v := zAq ad _) rfl rfl ?_
    rw [if_pos (by omega)] at hk
    cases hk
    exact ⟨_, rfl, rfl, Mem.closeD ho1 hs⟩
   ·
    intro h19; have g19 := of_decide_eq_false h19; refine zAi rfl rfl h19 ?_; refine zA rfl (zA0 (v := .int .i64 _) rfl) ?_; refine zAi rfl rfl h19 ?_; refine zA rfl (zA0 (v := .pointer (some _)) rfl) ?_; refine zAi rfl rfl h19 ?_; refine zA rfl (zA7 rfl) ?_; refine zAi rfl rfl h19 ?_; refine zA rfl (zA3 (o' := 1) uz94 rfl sz23 rfl rfl rfl) ?_; refine zAi rfl rfl h19 ?_; refine zA rfl (zA8 zC0 rfl rfl (hs.cellAt 0 rfl rfl)) ?_; refine zAi rfl rfl h19 ?_; refine zA rfl (zB2 zC0 rfl) ?_; refine zAi rfl rfl h19 ?_; refine zA rfl (zBi rfl rfl) ?_; refine zA rfl (zAk (v := .bool _) rfl h19 rfl) ?_; refine zA4 ?_; refine zB8 rfl ?_ ?_
    ·
     intro h27; have g27 := of_decide_eq_true h27; refine zA6 ?_; have hs2 := Mem.shutFile hb2 (Mem.closeF2 rfl rfl rfl rfl hs); rw [zEj hf] at hs2; clear hs; have hs := hs2; clear hs2; refine zA1 ?_; refine zA rfl (zA8 zCq rfl rfl (hE.cellW hs 105 (by decide) rfl)) ?_; refine zA rfl (zA2 (v := zAq ad _) rfl) ?_; refine zA4 ?_; refine zAg ?_; refine zBl (v := zAq ad _) rfl rfl ?_; rw [if_pos (by omega)] at hk
     cases hk
     exact ⟨_, rfl, rfl, Mem.closeD ho1 hs⟩
    ·
     intro h27; have g27 := of_decide_eq_false h27; refine zAf ?_; refine zA6 ?_; rw [if_neg (by omega)] at hk
     cases hk
     obtain ⟨q, rfl⟩ : ∃ q : Nat, m = (q : Int) := ⟨m.toNat, by omega⟩; simp only [Int.toNat_natCast]; refine zA1 ?_; refine zA rfl (zA0 (v := .pointer (some _)) rfl) ?_; refine zA rfl (zA0 (v := .pointer (some _)) rfl) ?_; refine zA rfl (zA7 rfl) ?_; refine zA rfl (zA3 (o' := 1) uz94 rfl sz23 rfl rfl rfl) ?_; refine zA rfl (zA8 zC0 rfl rfl (hs.cellAt 0 rfl rfl)) ?_; refine zA rfl (zA0 (v := .int .i64 _) rfl) ?_; refine zA rfl (zFa zC0 sz5 rfl rfl (hi := q) rfl (by omega)) ?_; refine zAb rfl en46 (zFh hs (l := (d1.fl i).b.take q) ((hs.rdOwn 1 rfl).subB (lo := 0) (hi := q) (by omega) (by omega)) (by simp; omega)) ?_; clear hs; rintro _ w ⟨a37, c37, rfl, hs⟩; refine zA rfl (zA7 rfl) ?_
     refine zA rfl (zA3 (o' := 1) uz94 rfl sz23 rfl rfl rfl) ?_; refine zAr (v := .slice _ _ _) hs 1 rfl sz23 rfl rfl rfl rfl ?_; clear hs; intro w hs
     try simp only [List.set_cons_succ, List.set_cons_zero] at hs
     refine zA4 (zA6 (zA1 ?_)); refine zA rfl (zA0 (v := .pointer (some _)) rfl) ?_; refine zA rfl (zA0 (v := .int .i64 _) rfl) ?_; refine zA rfl (zA7 rfl) ?_; refine zA rfl (zA3 (o' := 2) uz94 rfl sz3 rfl rfl rfl) ?_; refine zAr (v := .int .i64 _) hs 1 rfl sz3 rfl rfl rfl rfl ?_; clear hs; intro w hs
     try simp only [List.set_cons_succ, List.set_cons_zero] at hs
     refine zA4 (zA6 (zA1 ?_)); refine zA rfl (zA0 (v := .pointer (some _)) rfl) ?_; refine zA rfl (zA7 rfl) ?_; refine zA rfl (zA3 (o' := 7) uz72 rfl sz3 rfl rfl rfl) ?_; refine zA rfl (zA8 uz3 rfl rfl (hs.cellAt 3 rfl rfl)) ?_; refine zA rfl (zAs rfl rfl rfl (inI (by omega) (by omega))) ?_; refine zA rfl (zA7 rfl) ?_; refine zA rfl (zA3 (o' := 7) uz72 rfl sz3 rfl rfl rfl) ?_; refine zAr (v := .int .i64 _) hs 3 rfl sz3 rfl rfl rfl rfl ?_; clear hs; intro w hs
     try simp only [List.set_cons_succ, List.set_cons_zero] at hs
     refine zA4 (zA6 (zA1 ?_)); refine zA rfl (zA2 (v := .nilIface) rfl) ?_; refine zA4 ?_; refine zAg ?_; refine zBl (v := .nilIface) rfl rfl ?_; rw [zAu] at hs; exact ⟨_, rfl, (zB6 ad).symm, Mem.closeD (ho1.setF hki ⟨hfl.1, by simp; omega, by simp; omega⟩) (Mem.shutFile (L := L) hb2 (Mem.closeF2 (f := { d1.fl i with b := (d1.fl i).b.take q, syn := q }) rfl rfl rfl rfl (hs.arr [1, 0, 3, 4, 5, 6, 7] 8 (by decide))))⟩
theorem clip_sl (hs : Mem g w L) (i : Nat) {a : Option Addr} {m c : Nat} {l : List Value} (hi : L[i]? = some (own (.slice a m c) l)) (hm : m < 1000000000000) : Calls Tryz.prog 48 #[.slice a m c] w (Ret fun v w' => v = .slice a m m ∧ Mem g w' (L.set i (own (.slice a m m) l))) := by
  obtain ⟨h1, h2, h3⟩ := hs.ownForm i hi; refine zAo Tryz.func48 rfl rfl ?_
  skip
  refine zA6 (zA1 ?_); refine zA rfl (zA2 (v := .slice _ _ _) rfl) ?_; refine zA4 (zA6 (zA1 ?_)); refine zA rfl (zA0 (v := .slice _ _ _) rfl) ?_; refine zA rfl (zA0 (v := .slice _ _ _) rfl) ?_; refine zA rfl (zB2 zC0 rfl) ?_; refine zA rfl (zA0 (v := .slice _ _ _) rfl) ?_; refine zA rfl (zB2 zC0 rfl) ?_; refine zA rfl (run_clip zC0 sz5 rfl rfl rfl rfl rfl h2 h3) ?_; refine zA rfl (zA2 (v := .slice _ _ _) rfl) ?_; refine zA4 ?_; refine zAg ?_; refine zBl (v := .slice _ _ _) rfl rfl ?_; exact ⟨_, rfl, rfl, hs.clip i hi⟩
theorem append_sl (hE : ErrK ad g) (hs : Mem g w (zBz p d :: L)) (hcl : d.calls < 1000000) (n : ByteArray) {x : List UInt8} {a : Option Addr} {m c : Nat} (hr0 : Rd g L (.slice a m c) (zAm x)) (hm : m = x.length) (hx : x.length ≤ 1073741824) {k : Nat} {d2 : Dk} (hk : d.append n x = (k, d2)) : Calls Tryz.prog 19 #[.pointer (some ⟨p, 0, none⟩), .string n, .slice a m c] w (Ret fun v w' => v = zAq ad k ∧ Mem g w' (zBz p d2 :: L)) := by
  subst hm; obtain ⟨ho, mn, mk, sa, sc, ptr, hs⟩ := hs.openD; obtain ⟨c0, o, d1, hfd⟩ : ∃ c0 o d1, d.find n = (c0, o, d1) := ⟨_, _, _, rfl⟩; have hb := d.begin_same; rw [← Dk.find_dk hfd] at hb; have ho1 := ho.find hfd; have hu1 := Dk.used_le ho1; have hrm := ho1.room; refine zAo Tryz.func19 rfl rfl ?_
  skip
  refine zA6 (zA1 ?_); refine zA rfl (zA2 (v := .nilIface) rfl) ?_; refine zA4 (zA6 (zA1 ?_)); refine zA rfl (zA0 (v := .pointer (some _)) rfl) ?_; refine zA rfl (zA0 (v := .string _) rfl) ?_; refine zAb rfl en45 (find_sl hE ho n hs hfd) ?_; clear hs; rintro _ w ((⟨c, hc, h0, hr, rfl, hs⟩) | (⟨i, b, hr, hki, hb2, hf, rfl, hs⟩))
  ·
   refine zA rfl (zA0 (v := .tuple _) rfl) ?_; refine zA rfl (zAa (v := .pointer none) rfl rfl) ?_; refine zA rfl (zAa (v := zAq ad _) rfl rfl) ?_; refine zA rfl (zA2 (v := .pointer none) rfl) ?_; refine zA rfl (zA2 (v := zAq ad _) rfl) ?_; refine zA4 ?_; refine zA6 ?_; refine zA6 (zA1 ?_); refine zA rfl (zA0 (v := zAq ad _) rfl) ?_; refine zA rfl (zAt (ad := ad) rfl) ?_; refine zA4 ?_; refine zBb rfl (by simp [h0]) ?_; refine zA6 (zA1 ?_); refine zA rfl (zA0 (v := zAq ad _) rfl) ?_; refine zA rfl (zA2 (v := zAq ad _) rfl) ?_; refine zA4 ?_; refine zAg ?_; refine zBl (v := zAq ad _) rfl rfl ?_
   cases hr
   simp only [Dk.append, hfd] at hk
   cases hk
   exact ⟨_, rfl, rfl, Mem.closeD ho1 hs⟩
  ·
   refine zA rfl (zA0 (v := .tuple _) rfl) ?_; refine zA rfl (zAa (v := .pointer (some _)) rfl rfl) ?_; refine zA rfl (zAa (v := .nilIface) rfl rfl) ?_; refine zA rfl (zA2 (v := .pointer (some _)) rfl) ?_; refine zA rfl (zA2 (v := .nilIface) rfl) ?_; refine zA4 ?_; refine zA6 ?_; refine zA6 (zA1 ?_); refine zA rfl (zA0 (v := .nilIface) rfl) ?_; refine zA rfl (zBf rfl) ?_; refine zA4 ?_; refine zAx rfl (rfl) ?_; refine zAf ?_; refine zA6 ?_; refine zA6 ?_
   cases hr
   simp only [Dk.append, hfd] at hk; have hfl := ho1.fid _ _ hf; have hle := ho1.tookB.len_eq hki; refine zAy zBv hs ?_; intro w tr hK; replace hs := tr _ hs; clear tr; refine zA5 0 rfl rfl (fun w hs => zA0 (v := .slice _ _ _) rfl) hK ?_; refine zA5 1 rfl rfl (fun w hs => zB2 zC0 rfl) hK ?_; refine zA5 2 rfl rfl (fun w hs => zA0 (v := .pointer (some _)) rfl) hK ?_; refine zA5 3 rfl rfl (fun w hs => zA7 rfl) hK ?_; refine zA5 4 rfl rfl (fun w hs => zA3 (o' := 0) uz72 rfl sz3 rfl rfl rfl) hK ?_; refine zA5 5 rfl rfl (fun w hs => zA8 uz3 rfl rfl (hs.cellAt 0 rfl rfl)) hK ?_; refine zA5 6 rfl rfl (fun w hs => zA0 (v := .pointer (some _)) rfl) hK ?_; refine zA9 [7] ?_
   refine ⟨⟨_, rfl, ?_⟩, trivial⟩; refine zAb rfl en47 (usedP_sl hs ho1 (by omega)) ?_; clear hs; rintro _ w ⟨rfl, hs⟩; clear hK; have hK := hs; refine zA4 ⟨hK, ?_⟩; refine zA5 8 rfl rfl (fun w hs => zCg rfl rfl rfl (inI (by omega) (by omega))) hK ?_; refine zA5 9 rfl rfl (fun w hs => zBi rfl rfl) hK ?_; refine zAp (by kernel_rfl) ?_; clear hK; refine zB8 rfl ?_ ?_
   ·
    intro h27; have g27 := of_decide_eq_true h27; refine zA6 (zA1 ?_); refine zA rfl (zA8 zCq rfl rfl (hE.cellW hs 109 (by decide) rfl)) ?_; refine zA rfl (zA2 (v := zAq ad _) rfl) ?_; refine zA4 ?_; refine zAg ?_; refine zBl (v := zAq ad _) rfl rfl ?_; rw [if_pos (by omega)] at hk
    cases hk
    exact ⟨_, rfl, rfl, Mem.closeD ho1 hs⟩
   ·
    intro h27; have g27 := of_decide_eq_false h27; refine zAf ?_; refine zA6 ?_; rw [if_neg (by omega)] at hk
    cases hk
    obtain ⟨fa, fc, hfc, hs⟩ := hs.openFile hb2 hf; have hfn := Dk.find_some hfd; have hlu := Dk.len_used hfn.2.2.2; refine zA1 ?_; refine zA rfl (zA0 (v := .pointer (some _)) rfl) ?_; refine zA rfl (zA0 (v := .pointer (some _)) rfl) ?_; refine zA rfl (zA7 rfl) ?_; refine zA rfl (zA3 (o' := 1) uz94 rfl sz23 rfl rfl rfl) ?_; refine zA rfl (zA8 zC0 rfl rfl (hs.cellAt 0 rfl rfl)) ?_; refine zAb rfl en48 (clip_sl hs 1 rfl (by omega)) ?_; clear hs; rintro _ w ⟨rfl, hs⟩; refine zA rfl (zA0 (v := .slice _ _ _) rfl) ?_; refine zCh hs rfl 1 rfl zC0 in5 rfl rfl rfl (zC5 (P := Tryz.prog) zC0 (hr0.seq (hs.suffix 7 rfl)) (zBy x)) (by simp only [zAu]; omega) (by simp only [zAu]; omega) ?_; clear hs
    intro a36 c36 w hs; simp only [List.set_cons_succ, List.set_cons_zero] at hs; refine zA rfl (zA7 rfl) ?_; refine zA rfl (zA3 (o' := 1) uz94 rfl sz23 rfl rfl rfl) ?_; refine zAr (v := .slice _ _ _) hs 0 rfl sz23 rfl rfl rfl rfl ?_; clear hs; intro w hs
    try simp only [List.set_cons_succ, List.set_cons_zero] at hs
    refine zA4 (zA6 (zA1 ?_)); refine zA rfl (zA0 (v := .pointer (some _)) rfl) ?_; refine zA rfl (zA7 rfl) ?_; refine zA rfl (zA3 (o' := 7) uz72 rfl sz3 rfl rfl rfl) ?_; refine zA rfl (zA8 uz3 rfl rfl (hs.cellAt 2 rfl rfl)) ?_; refine zA rfl (zAs rfl rfl rfl (inI (by omega) (by omega))) ?_; refine zA rfl (zA7 rfl) ?_; refine zA rfl (zA3 (o' := 7) uz72 rfl sz3 rfl rfl rfl) ?_; refine zAr (v := .int .i64 _) hs 2 rfl sz3 rfl rfl rfl rfl ?_; clear hs; intro w hs
    try simp only [List.set_cons_succ, List.set_cons_zero] at hs
    refine zA4 (zA6 (zA1 ?_)); refine zA rfl (zA2 (v := .nilIface) rfl) ?_; refine zA4 ?_; refine zAg ?_; refine zBl (v := .nilIface) rfl rfl ?_; exact ⟨_, rfl, (zB6 ad).symm, Mem.closeD (ho1.setF hki ⟨hfl.1, by simp; omega, by simp; omega⟩) (Mem.shutFile (L := L) hb2 (Mem.closeF2 (f := { d1.fl i with b := (d1.fl i).b ++ x }) rfl (by simp [zAu]) rfl (zCi _ _).symm hs))⟩
theorem remove_sl (hE : ErrK ad g) (hs : Mem g w (zBz p d :: L)) (hcl : d.calls < 1000000) (n : ByteArray) {k : Nat} {d2 : Dk} (hk : d.remove n = (k, d2)) : Calls Tryz.prog 91 #[.pointer (some ⟨p, 0, none⟩), .string n] w (Ret fun v w' => v = zAq ad k ∧ Mem g w' (zBz p d2 :: L)) := by
  obtain ⟨ho, mn, mk, sa, sc, ptr, hs⟩ := hs.openD; obtain ⟨c0, o, d1, hfd⟩ : ∃ c0 o d1, d.find n = (c0, o, d1) := ⟨_, _, _, rfl⟩; have hb := d.begin_same; rw [← Dk.find_dk hfd] at hb; have ho1 := ho.find hfd; have hkl := ho1.kl; refine zAo Tryz.func91 rfl rfl ?_
  skip
  refine zA6 (zA1 ?_); refine zA rfl (zA2 (v := .nilIface) rfl) ?_; refine zA4 ?_; refine zA6 ?_; refine zA6 (zA1 ?_); refine zA rfl (zA0 (v := .pointer (some _)) rfl) ?_; refine zA rfl (zA0 (v := .string _) rfl) ?_; refine zAb rfl en45 (find_sl hE ho n hs hfd) ?_; clear hs; rintro _ w ((⟨c, hc, h0, hr, rfl, hs⟩) | (⟨i, b, hr, hki, hb2, hf, rfl, hs⟩))
  ·
   refine zA rfl (zA0 (v := .tuple _) rfl) ?_; refine zA rfl (zAa (v := .pointer none) rfl rfl) ?_; refine zA rfl (zAa (v := zAq ad _) rfl rfl) ?_; refine zA rfl (zA2 (v := .pointer none) rfl) ?_; refine zA rfl (zA2 (v := zAq ad _) rfl) ?_; refine zA4 (zA6 (zA1 ?_)); refine zA rfl (zA0 (v := zAq ad _) rfl) ?_; refine zA rfl (zAt (ad := ad) rfl) ?_; refine zA4 ?_; refine zBb rfl (by simp [h0]) ?_; refine zA6 (zA1 ?_); refine zA rfl (zA0 (v := zAq ad _) rfl) ?_; refine zA rfl (zA2 (v := zAq ad _) rfl) ?_; refine zA4 ?_; refine zAg ?_; refine zBl (v := zAq ad _) rfl rfl ?_
   cases hr
   simp only [Dk.remove, hfd] at hk
   cases hk
   exact ⟨_, rfl, rfl, Mem.closeD ho1 hs⟩
  ·
   refine zA rfl (zA0 (v := .tuple _) rfl) ?_; refine zA rfl (zAa (v := .pointer (some _)) rfl rfl) ?_; refine zA rfl (zAa (v := .nilIface) rfl rfl) ?_; refine zA rfl (zA2 (v := .pointer (some _)) rfl) ?_; refine zA rfl (zA2 (v := .nilIface) rfl) ?_; refine zA4 (zA6 (zA1 ?_)); refine zA rfl (zA0 (v := .nilIface) rfl) ?_; refine zA rfl (zBf rfl) ?_; refine zA4 ?_; refine zAx rfl (rfl) ?_; refine zAf ?_; refine zA6 ?_
   cases hr
   simp only [Dk.remove, hfd] at hk
   cases hk
   refine zA1 ?_; refine zA rfl (zA0 (v := .pointer (some _)) rfl) ?_; refine zA rfl (zA0 (v := .string _) rfl) ?_; refine zA rfl (zC3 (cs := [.string ByteArray.empty, .string n, .pointer none]) zG ze120 pl120 rfl) ?_; refine zAb rfl en75 (change_sl (by omega) (by omega) hs ⟨ByteArray.empty, n, none⟩ (fun i hi => by cases hi) (row := [.string ByteArray.empty, .string n, .pointer none]) rfl) ?_; clear hs; rintro _ w ⟨rfl, sa2, sc2, hs⟩; refine zA4 (zA6 (zA1 ?_)); refine zA rfl (zA2 (v := .nilIface) rfl) ?_; refine zA4 ?_; refine zAg ?_; refine zBl (v := .nilIface) rfl rfl ?_; exact ⟨_, rfl, (zB6 ad).symm, Mem.closeD (ho1.change fun i hi => by cases hi) hs⟩
theorem rename_sl (hE : ErrK ad g) (hs : Mem g w (zBz p d :: L)) (hcl : d.calls < 1000000) (n m : ByteArray) {k : Nat} {d2 : Dk} (hk : d.rename n m = (k, d2)) : Calls Tryz.prog 96 #[.pointer (some ⟨p, 0, none⟩), .string n, .string m] w (Ret fun v w' => v = zAq ad k ∧ Mem g w' (zBz p d2 :: L)) := by
  obtain ⟨ho, mn, mk, sa, sc, ptr, hs⟩ := hs.openD; obtain ⟨c0, o, d1, hfd⟩ : ∃ c0 o d1, d.find n = (c0, o, d1) := ⟨_, _, _, rfl⟩; have hb := d.begin_same; rw [← Dk.find_dk hfd] at hb; have ho1 := ho.find hfd; have hkl := ho1.kl; refine zAo Tryz.func96 rfl rfl ?_
  skip
  refine zA6 (zA1 ?_); refine zA rfl (zA2 (v := .nilIface) rfl) ?_; refine zA4 (zA6 (zA1 ?_)); refine zA rfl (zA0 (v := .pointer (some _)) rfl) ?_; refine zA rfl (zA0 (v := .string _) rfl) ?_; refine zAb rfl en45 (find_sl hE ho n hs hfd) ?_; clear hs; rintro _ w ((⟨c, hc, h0, hr, rfl, hs⟩) | (⟨i, b, hr, hki, hb2, hf, rfl, hs⟩))
  ·
   refine zA rfl (zA0 (v := .tuple _) rfl) ?_; refine zA rfl (zAa (v := .pointer none) rfl rfl) ?_; refine zA rfl (zAa (v := zAq ad _) rfl rfl) ?_; refine zA rfl (zA2 (v := .pointer none) rfl) ?_; refine zA rfl (zA2 (v := zAq ad _) rfl) ?_; refine zA4 ?_; refine zA6 ?_; refine zA6 (zA1 ?_); refine zA rfl (zA0 (v := zAq ad _) rfl) ?_; refine zA rfl (zAt (ad := ad) rfl) ?_; refine zA4 ?_; refine zBb rfl (by simp [h0]) ?_; refine zA6 (zA1 ?_); refine zA rfl (zA0 (v := zAq ad _) rfl) ?_; refine zA rfl (zA2 (v := zAq ad _) rfl) ?_; refine zA4 ?_; refine zAg ?_; refine zBl (v := zAq ad _) rfl rfl ?_
   cases hr
   simp only [Dk.rename, hfd] at hk
   cases hk
   exact ⟨_, rfl, rfl, Mem.closeD ho1 hs⟩
  ·
   refine zA rfl (zA0 (v := .tuple _) rfl) ?_; refine zA rfl (zAa (v := .pointer (some _)) rfl rfl) ?_; refine zA rfl (zAa (v := .nilIface) rfl rfl) ?_; refine zA rfl (zA2 (v := .pointer (some _)) rfl) ?_; refine zA rfl (zA2 (v := .nilIface) rfl) ?_; refine zA4 ?_; refine zA6 ?_; refine zA6 (zA1 ?_); refine zA rfl (zA0 (v := .nilIface) rfl) ?_; refine zA rfl (zBf rfl) ?_; refine zA4 ?_; refine zAx rfl (rfl) ?_; refine zAf ?_; refine zA6 ?_; refine zA6 ?_
   cases hr
   simp only [Dk.rename, hfd] at hk; refine zA1 ?_; refine zA rfl (zA0 (v := .string _) rfl) ?_; refine zAb rfl en74 (valid_sl hs m) ?_; clear hs; rintro _ w ⟨rfl, hs⟩; refine zA rfl (zC4 rfl) ?_; refine zA4 ?_; refine zB8 rfl ?_ ?_
   ·
    intro h20; replace h20 := zFu h20; refine zA6 (zA1 ?_); refine zA rfl (zA8 zCq rfl rfl (hE.cellW hs 106 (by decide) rfl)) ?_; refine zA rfl (zA2 (v := zAq ad _) rfl) ?_; refine zA4 ?_; refine zAg ?_; refine zBl (v := zAq ad _) rfl rfl ?_; rw [if_pos h20] at hk
    cases hk
    exact ⟨_, rfl, rfl, Mem.closeD ho1 hs⟩
   ·
    intro h20; replace h20 := zEs h20; refine zAf ?_; refine zA6 ?_; rw [if_neg (by simp [h20])] at hk
    cases hk
    refine zA1 ?_; refine zA rfl (zA0 (v := .string _) rfl) ?_; refine zA rfl (zA0 (v := .string _) rfl) ?_; refine zA rfl (zA0 (v := .pointer (some _)) rfl) ?_; refine zA rfl (zC3 (cs := [.string m, .string n, .pointer (some ⟨b, 0, none⟩)]) zG ze120 pl120 rfl) ?_; refine zBd hs rfl ze120 ?_; clear hs; intro b9 w hs
    try simp only [List.set_cons_succ, List.set_cons_zero] at hs
    refine zAn hs 0 rfl rfl rfl sz120 rfl rfl ?_; clear hs; intro w hs
    try simp only [List.set_cons_succ, List.set_cons_zero] at hs
    refine zA4 ?_; refine zA6 ?_; refine zA6 (zA1 ?_); refine zA rfl (zA0 (v := .string _) rfl) ?_; refine zA rfl (zA0 (v := .string _) rfl) ?_; refine zA rfl (run_eqs rfl rfl) ?_; refine zA4 ?_; refine zB8 rfl ?_ ?_
    ·
     intro h29; have g29 := of_decide_eq_true h29; refine zA1 ?_; refine zA rfl (zA3 (o' := 1) zG rfl sz9 rfl rfl rfl) ?_; refine zAr (v := .string _) hs 0 rfl sz9 rfl rfl rfl rfl ?_; clear hs; intro w hs
     try simp only [List.set_cons_succ, List.set_cons_zero] at hs
     refine zA4 (zA6 (zA1 ?_)); refine zA rfl (zA0 (v := .pointer (some _)) rfl) ?_; refine zA rfl (zBc hs 0 rfl zG sz120 rfl) ?_; refine zAb rfl en75 (change_sl (d := d1) (L := cells b9 _ _ :: L) (by omega) (by omega) (hs.arr [1, 2, 3, 4, 5, 0] 6 (by decide)) ⟨m, ByteArray.empty, some i⟩ (fun j hj => by cases hj; exact ⟨b, hb2⟩) (row := [.string m, .string ByteArray.empty, .pointer (some ⟨b, 0, none⟩)]) (by simp [chgV, zG0 hb2])) ?_; clear hs; rintro _ w ⟨rfl, sa2, sc2, hs⟩; refine zA4 (zA6 (zA1 ?_)); refine zA rfl (zA2 (v := .nilIface) rfl) ?_; refine zA4 ?_; refine zAg ?_; refine zBl (v := .nilIface) rfl rfl ?_; rw [if_pos g29]
     exact ⟨_, rfl, (zB6 ad).symm, Mem.closeD (ho1.change fun j hj => by cases hj; exact hki) (hs.drop 5)⟩
    ·
     intro h29; have g29 := of_decide_eq_false h29; refine zAf ?_; refine zA6 (zA1 ?_); refine zA rfl (zA0 (v := .pointer (some _)) rfl) ?_; refine zA rfl (zBc hs 0 rfl zG sz120 rfl) ?_; refine zAb rfl en75 (change_sl (d := d1) (L := cells b9 _ _ :: L) (by omega) (by omega) (hs.arr [1, 2, 3, 4, 5, 0] 6 (by decide)) ⟨m, n, some i⟩ (fun j hj => by cases hj; exact ⟨b, hb2⟩) (row := [.string m, .string n, .pointer (some ⟨b, 0, none⟩)]) (by simp [chgV, zG0 hb2])) ?_; clear hs; rintro _ w ⟨rfl, sa2, sc2, hs⟩; refine zA4 (zA6 (zA1 ?_)); refine zA rfl (zA2 (v := .nilIface) rfl) ?_; refine zA4 ?_; refine zAg ?_; refine zBl (v := .nilIface) rfl rfl ?_; rw [if_neg g29]
     exact ⟨_, rfl, (zB6 ad).symm, Mem.closeD (ho1.change fun j hj => by cases hj; exact hki) (hs.drop 5)⟩
end Go.Proofs.YtdkgdjnbpjjfmaaGreatDoor
namespace Go.Proofs.YtdkgdjnbpjjfmaaGreatDoor
set_option linter.all false
open Go.RowKit
variable {d : Dk} {n s : ByteArray} {b : List UInt8}

/-- The name beside a name. -/
def zCc (s : ByteArray) : ByteArray := s ++ (⟨#[46, 110, 101, 119]⟩ : ByteArray)
def Dk.wstep (s : ByteArray) (b : List UInt8) (k : Nat) (d : Dk) : Nat × Dk := match k with
  | 0 => if (d.lenR (zCc s)).1 = 107 then (0, d) else d.remove (zCc s)
  | 1 => d.create (zCc s)
  | 2 => d.append (zCc s) (zBt b)
  | 3 => d.sync (zCc s)
  | 4 => d.rename (zCc s) s
  | 5 => d.syncDir
  | _ => (0, d)
def Dk.wrun (s : ByteArray) (b : List UInt8) : Nat → Nat → Dk → Nat × Dk
  | 0, _, d => (0, d)
  | f + 1, k, d => if (d.wstep s b k).1 = 0 then Dk.wrun s b f (k + 1) (d.wstep s b k).2 else d.wstep s b k
def Dk.write (s : ByteArray) (b : List UInt8) (d : Dk) : Nat × Dk := if zCa s.data.toList = true ∧ zCa (zCc s).data.toList = true then Dk.wrun s b 6 0 d else (106, d)
def Dk.pread (s : ByteArray) (d : Dk) : Nat × List UInt8 := if (d.lenR s).1 ≠ 0 then ((d.lenR s).1, []) else if (d.readR s 0 ((d.lenR s).2 : Int)).1 ≠ 0 then ((d.readR s 0 ((d.lenR s).2 : Int)).1, []) else openL (d.readR s 0 ((d.lenR s).2 : Int)).2
theorem Dk.lenR_code (n : ByteArray) (d : Dk) : (d.lenR n).1 = 0 ∨ (d.lenR n).1 = 107 ∨ (d.lenR n).1 = 110 := by
  unfold Dk.lenR Dk.file
  cases d.down with
  | true => exact .inr (.inr rfl)
  | false =>
    cases zB5 d.names n with
    | none => exact .inr (.inl rfl)
    | some i => exact .inl rfl
theorem Dk.ok.lenR_le (h : d.ok) (n : ByteArray) : (d.lenR n).2 ≤ 4194304 := by
  unfold Dk.lenR Dk.file
  cases d.down with
  | true => exact Nat.zero_le _
  | false =>
    cases hn : zB5 d.names n with
    | none => exact Nat.zero_le _
    | some i =>
      have hi := h.named hn; exact (h.fid i _ (h.fl_some hi)).2.2
theorem Dk.calls_find (n : ByteArray) (d : Dk) : (d.find n).2.2.calls = d.calls := by
  obtain ⟨_, _, _, _, _, _, h, _⟩ := d.begin_same
  unfold Dk.find
  split <;> exact h
theorem Dk.wstep_calls (s : ByteArray) (b : List UInt8) (k : Nat) (d : Dk) : (d.wstep s b k).2.calls ≤ d.calls + 1 := by
  obtain ⟨_, _, _, _, _, _, hb, _⟩ := d.begin_same
  have hf := fun n => d.calls_find n
  match k with
  | 0 =>
    simp only [Dk.wstep]
    split
    · exact Nat.le_succ _
    · unfold Dk.remove
      have h := hf (zCc s)
      revert h
      rcases d.find (zCc s) with ⟨c, _ | i, d1⟩ <;> intro h
      · simp only at h ⊢; omega
      · simp only [Dk.change] at h ⊢; omega
  | 1 =>
    simp only [Dk.wstep, Dk.create]
    split
    · simp only; omega
    · split
      · simp only; omega
      · split
        · simp only; omega
        · simp only [Dk.change]; omega
  | 2 =>
    simp only [Dk.wstep, Dk.append]; have h := hf (zCc s)
    revert h
    rcases d.find (zCc s) with ⟨c, _ | i, d1⟩ <;> intro h
    · simp only at h ⊢; omega
    · simp only at h ⊢
      split
      · simp only; omega
      · simp only; omega
  | 3 =>
    simp only [Dk.wstep, Dk.sync]; have h := hf (zCc s)
    revert h
    rcases d.find (zCc s) with ⟨c, _ | i, d1⟩ <;> intro h
    · simp only at h ⊢; omega
    · simp only at h ⊢; omega
  | 4 =>
    simp only [Dk.wstep, Dk.rename]; have h := hf (zCc s)
    revert h
    rcases d.find (zCc s) with ⟨c, _ | i, d1⟩ <;> intro h
    · simp only at h ⊢; omega
    · simp only at h ⊢
      split
      · simp only; omega
      · simp only [Dk.change]; omega
  | 5 =>
    simp only [Dk.wstep, Dk.syncDir]
    split
    · simp only; omega
    · simp only; omega
  | k + 6 => exact Nat.le_succ _
end Go.Proofs.YtdkgdjnbpjjfmaaGreatDoor
namespace Go.Proofs
open Go.Shelf
def Tryz.mclone66_ren : Go.Shelf.Ren := ⟨fun | 5 => 66 | 7 => 107 | n => n, fun | 23 => 69 | 25 => 9 | 3 => 90 | 4 => 4 | 20 => 20 | n => n, fun | n => n⟩
theorem Tryz.mclone66 : Go.Proofs.SlLaysW.n5 Tryz.prog Tryz.mclone66_ren := {
  mixed := by kernel_rfl
  f5 := ⟨Tryz.f66.name, by decide, Tryz.func66.trans (congrArg some (by kernel_rfl))⟩
  f7 := Tryz.func107.trans (congrArg some (by kernel_rfl))
  t4 := Tryz.underlying4
  a4 := Tryz.isAgg4
  z4 := Tryz.sizeOf4
  v4 := Tryz.zeroValue4
  t20 := Tryz.underlying20
  a20 := Tryz.isAgg20
  z20 := Tryz.sizeOf20
  v20 := Tryz.zeroValue20
  t23 := Tryz.underlying69
  a23 := Tryz.isAgg69
  z23 := Tryz.sizeOf69
  v23 := Tryz.zeroValue69 }
def Tryz.sortf64_ren : Go.Shelf.Ren := ⟨fun | 6 => 64 | 15 => 106 | 14 => 105 | 28 => 141 | 29 => 142 | 20 => 133 | 21 => 134 | 22 => 135 | 23 => 136 | 24 => 137 | 25 => 138 | 26 => 139 | 27 => 140 | 46 => 166 | 47 => 167 | 48 => 168 | 49 => 169 | 50 => 170 | 57 => 187 | n => n, fun | 22 => 122 | 24 => 90 | 25 => 125 | 3 => 3 | 39 => 156 | 0 => 0 | 53 => 111 | 55 => 100 | 4 => 4 | 46 => 199 | 45 => 198 | 50 => 203 | 5 => 5 | 9 => 9 | 66 => 222 | 70 => 226 | 76 => 239 | 77 => 240 | n => n, fun | n => n⟩
end Go.Proofs
namespace Go.Proofs.YtdkgdjnbpjjfmaaGreatDoor
set_option linter.all false
open Go.RowKit Go.Sort Go.Shelf
variable {g w : World} {L M : List HP} {ad : Nat → Addr} {d : Dk} {ptr : List (Nat × Nat)}

theorem mclone_sl (hs : Mem g w L) (i : Nat) {m : Nat} {es : List (ByteArray × Value)} (hi : L[i]? = some (mapS m es)) : Calls Tryz.prog 66 #[.map (some m)] w (Ret fun v w' => ∃ m', v = .map (some m') ∧ Mem g w' (mapS m' es :: L)) := by
  obtain ⟨F, ⟨⟨arr, clock, hb, he, hst⟩, _⟩⟩ := hs.read hi; refine (AnyW.maps_Clone Tryz.mclone66 m arr clock w hb).mono ?_; rintro e w' ⟨rfl, rfl⟩; exact ⟨_, rfl, w.heap.size, rfl, hs.add (F' := fun x => x = w.heap.size) ⟨⟨arr, clock, World.alloc_heap_new w _, he, hst⟩, fun _ => Iff.rfl⟩ (fun _ h => Nat.le_of_eq h.symm) ((Keeps.refl _ _).alloc _)⟩

/-! ### slices.SortFunc -/
end Go.Proofs.YtdkgdjnbpjjfmaaGreatDoor
namespace Go.Proofs.YtdkgdjnbpjjfmaaGreatDoor
set_option linter.all false
open Go.RowKit
attribute [local irreducible] zAq
variable {g w : World} {L M : List HP} {ad : Nat → Addr} {p mn mk sc : Nat} {sa : Option Addr} {d : Dk} {ptr : List (Nat × Nat)}

/-! ### small words -/
section
variable {P : Program} {ρ : Env} {dst : Option Tmp} {ty : TypeId} {pos : String} {aft : Array Edge}
end
/-- One cell of a block. -/
def hold (b o : Nat) (v : Value) : HP where
  ok F w := w.cell? ⟨b, o, none⟩ = some v ∧ b < w.heap.size ∧ ∀ x, F x ↔ x = b
  loc := fun {F w w'} ⟨h1, h2, h3⟩ k => by
    have hk := k b ((h3 b).2 rfl); refine ⟨?_, lt_keep h2 hk, h3⟩; simp only [World.cell?] at h1 ⊢
    rw [hk]; exact h1
  lt := fun ⟨_, h2, h3⟩ hb => by rw [(h3 _).1 hb]; exact h2
theorem syncDir_sl (hE : ErrK ad g) (hs : Mem g w (zBz p d :: L)) (hcl : d.calls < 1000000) {k : Nat} {d2 : Dk} (hk : d.syncDir = (k, d2)) : Calls Tryz.prog 35 #[.pointer (some ⟨p, 0, none⟩)] w (Ret fun v w' => v = zAq ad k ∧ Mem g w' (zBz p d2 :: L)) := by
  obtain ⟨ho, mn, mk, sa, sc, ptr, hs⟩ := hs.openD; have hb := d.begin_same; have hbc := d.begin_code; have ho1 := ho.begin; refine zAo Tryz.func35 rfl rfl ?_
  skip
  refine zA6 (zA1 ?_); refine zA rfl (zA2 (v := .nilIface) rfl) ?_; refine zA4 ?_; refine zA6 ?_; refine zA6 (zA1 ?_); refine zA rfl (zA0 (v := .pointer (some _)) rfl) ?_; refine zAb rfl en73 (begin_sl hE ho hs) ?_; clear hs; rintro _ w ⟨rfl, hs⟩; refine zA rfl (zA2 (v := zAq ad _) rfl) ?_; refine zA4 (zA6 (zA1 ?_)); refine zA rfl (zA0 (v := zAq ad _) rfl) ?_; refine zA rfl (zAt (ad := ad) rfl) ?_; refine zA4 ?_; refine zB8 rfl ?_ ?_
  ·
   intro h7; have g7 := ne_t h7; refine zA6 (zA1 ?_); refine zA rfl (zA0 (v := zAq ad _) rfl) ?_; refine zA rfl (zA2 (v := zAq ad _) rfl) ?_; refine zA4 ?_; refine zAg ?_; refine zBl (v := zAq ad _) rfl rfl ?_
   have hb1 : d.begin.1 ≠ 0 := by simpa using h7
   have e : d.syncDir = (110, d.begin.2) := by simp [Dk.syncDir, hb1]
   rw [e] at hk
   cases hk
   rw [show d.begin.1 = 110 by omega]; exact ⟨_, rfl, rfl, Mem.closeD ho1 hs⟩
  ·
   intro h7; have g7 := ne_f h7; refine zAf ?_; refine zA6 (zA1 ?_); refine zA rfl (zA0 (v := .pointer (some _)) rfl) ?_; refine zA rfl (zA0 (v := .pointer (some _)) rfl) ?_; refine zA rfl (zA0 (v := .pointer (some _)) rfl) ?_; refine zA rfl (zA7 rfl) ?_; refine zA rfl (zA3 (o' := 1) uz72 rfl sz69 rfl rfl rfl) ?_; refine zA rfl (zA8 uz69 rfl rfl (hs.cellAt 0 rfl rfl)) ?_; refine zAb rfl en66 (mclone_sl hs 1 rfl) ?_; clear hs; rintro _ w ⟨m15, rfl, hs⟩; refine zA rfl (zA7 rfl) ?_; refine zA rfl (zA3 (o' := 2) uz72 rfl sz69 rfl rfl rfl) ?_; refine zAr (v := .map _) hs 1 rfl sz69 rfl rfl rfl rfl ?_; clear hs; intro w hs
   try simp only [List.set_cons_succ, List.set_cons_zero] at hs
   refine zA rfl (zA7 rfl) ?_; refine zA rfl (zA3 (o' := 3) uz72 rfl sz70 rfl rfl rfl) ?_; refine zAr (v := .slice _ _ _) hs 1 rfl sz70 rfl rfl rfl rfl ?_; clear hs; intro w hs
   try simp only [List.set_cons_succ, List.set_cons_zero] at hs
   refine zA4 (zA6 (zA1 ?_)); refine zA rfl (zA0 (v := .pointer (some _)) rfl) ?_; refine zA rfl (zA7 rfl) ?_; refine zA rfl (zA3 (o' := 7) uz72 rfl sz3 rfl rfl rfl) ?_; refine zA rfl (zA8 uz3 rfl rfl (hs.cellAt 1 rfl rfl)) ?_; refine zA rfl (zAs rfl rfl rfl (inI (by omega) (by omega))) ?_; refine zA rfl (zA7 rfl) ?_; refine zA rfl (zA3 (o' := 7) uz72 rfl sz3 rfl rfl rfl) ?_; refine zAr (v := .int .i64 _) hs 1 rfl sz3 rfl rfl rfl rfl ?_; clear hs; intro w hs
   try simp only [List.set_cons_succ, List.set_cons_zero] at hs
   refine zA4 (zA6 (zA1 ?_)); refine zA rfl (zA2 (v := .nilIface) rfl) ?_; refine zA4 ?_; refine zAg ?_; refine zBl (v := .nilIface) rfl rfl ?_
   have hb1 : d.begin.1 = 0 := by simpa using h7
   have e : d.syncDir = (0, { d.begin.2 with kept := d.begin.2.names, changes := [], calls := d.begin.2.calls + 1 }) := by simp [Dk.syncDir, hb1]
   rw [e] at hk
   cases hk
   exact ⟨_, rfl, (zB6 ad).symm, Mem.closeD (mn := mn) (mk := m15) (sa := none) (sc := 0) (ptr := ptr) ho1.syncDir ((hs.addE (rows_nil _)).arr [2, 3, 1, 0, 6] 7 (by decide))⟩
end Go.Proofs.YtdkgdjnbpjjfmaaGreatDoor
namespace Go.Proofs.YtdkgdjnbpjjfmaaGreatDoor
set_option linter.all false
open Go.RowKit
attribute [local irreducible] zAq
variable {g w : World} {L M : List HP} {ad : Nat → Addr} {p mn mk sc : Nat} {sa : Option Addr} {d : Dk} {ptr : List (Nat × Nat)}

end Go.Proofs.YtdkgdjnbpjjfmaaGreatDoor
namespace Go.Proofs.YtdkgdjnbpjjfmaaGreatDoor
set_option linter.all false
open Go.RowKit
attribute [local irreducible] zAq
variable {g w : World} {L M : List HP} {ad : Nat → Addr} {p : Nat} {d : Dk}

abbrev nm1 (c : UInt8) : ByteArray := ⟨#[c]⟩
/-- The disk of the examples. -/
abbrev fD (kept : List (ByteArray × Nat)) (ch : List Chg) (calls : Nat) (b : List UInt8) (s : Nat) : Dk := ⟨100, [(nm1 97, 1)], kept, ch, 1, 0, false, calls, [(1, ⟨1, b, s⟩)]⟩
end Go.Proofs.YtdkgdjnbpjjfmaaGreatDoor
namespace Go.Proofs.YtdkgdjnbpjjfmaaGreatDoor
set_option linter.all false
open Go.RowKit
attribute [local irreducible] zAq
variable {g w : World} {L M : List HP} {ad : Nat → Addr} {p : Nat} {d : Dk}

theorem Dk.readR_at {n : ByteArray} {i o m : Nat} {F : Fl} (h1 : d.down = false) (hn : zB5 d.names n = some i) (hf : zB5 d.fs i = some F) (hl : o + m ≤ F.b.length) : d.readR n o m = (0, (F.b.take (o + m)).drop o) := by
  have e : d.fl i = F := by simp [Dk.fl, hf]
  simp only [Dk.readR, Dk.file, h1, hn, Bool.false_eq_true, if_false, e]; rw [if_neg (by omega)]
  simp
abbrev kD (names kept : List (ByteArray × Nat)) (ch : List Chg) (files calls : Nat) (fs : List (Nat × Fl)) : Dk := ⟨2000, names, kept, ch, files, 0, false, calls, fs⟩
abbrev chG : Chg := ⟨nm1 103, ByteArray.empty, some 2⟩
end Go.Proofs.YtdkgdjnbpjjfmaaGreatDoor
namespace Go.Proofs.YtdkgdjnbpjjfmaaGreatDoor
set_option linter.all false
open Go.RowKit
attribute [local irreducible] zAq
variable {g w : World} {L M : List HP} {ad : Nat → Addr} {p : Nat} {d : Dk}

/-- A disk of one file. -/
abbrev oneD (room : Nat) (n : ByteArray) (kept : List (ByteArray × Nat)) (ch : List Chg) (calls : Nat) (b : List UInt8) (s : Nat) : Dk := ⟨room, [(n, 1)], kept, ch, 1, 0, false, calls, [(1, ⟨1, b, s⟩)]⟩
end Go.Proofs.YtdkgdjnbpjjfmaaGreatDoor
namespace Go.Proofs.YtdkgdjnbpjjfmaaGreatDoor
set_option linter.all false
open Go.RowKit
attribute [local irreducible] zAq
variable {g w : World} {L M : List HP} {ad : Nat → Addr} {p : Nat} {d : Dk}

theorem Dk.begin_down (h : d.down = true) : d.begin = (110, d) := by simp [Dk.begin, h]
theorem Dk.find_down (h : d.down = true) (n : ByteArray) : d.find n = (110, none, d) := by simp [Dk.find, Dk.begin_down h]
theorem Dk.cut_down (h : d.down = true) (n : ByteArray) (z : Int) : d.cut n z = (110, d) := by simp only [Dk.cut, Dk.find_down h]
/-- The disk while the power is gone. -/
abbrev dnD (lb : List UInt8) : Dk := ⟨500, [(nm1 97, 1)], [(nm1 97, 1)], [], 1, 0, true, 4, [(1, ⟨1, lb, lb.length⟩)]⟩
end Go.Proofs.YtdkgdjnbpjjfmaaGreatDoor
namespace Go.Proofs.YtdkgdjnbpjjfmaaGreatDoor
set_option linter.all false
open Go.RowKit
attribute [local irreducible] zAq
variable {g w : World} {L M : List HP} {ad : Nat → Addr} {p : Nat} {d : Dk}

def nmI (i : Nat) : ByteArray := nm1 (UInt8.ofNat (97 + i))
theorem nmI_valid : ∀ i < 20, zCa (nmI i).data.toList = true := by decide +kernel
theorem nmI_inj {i j : Nat} (hi : i < 20) (hj : j < 20) (h : nmI i = nmI j) : i = j := by
  simp only [nmI, nm1, ByteArray.mk.injEq, Array.mk.injEq, List.cons.injEq, and_true] at h; have := congrArg UInt8.toNat h; rw [UInt8.toNat_ofNat', UInt8.toNat_ofNat'] at this
  omega
theorem zC {κ α : Type} [DecidableEq κ] {l : List (κ × α)} {k : κ} {v : α} (h : k ∉ zAl l) : zB5 (l ++ [(k, v)]) k = some v := by rw [← aput_end h, zB9]
theorem zDj {κ α : Type} [DecidableEq κ] {l : List (κ × α)} {k j : κ} {v : α} (h : k ∉ zAl l) (hj : j ≠ k) : zB5 (l ++ [(k, v)]) j = zB5 l j := by rw [← aput_end h, zB1 _ _ hj]
theorem adel_app_new {κ α : Type} [DecidableEq κ] : ∀ {l : List (κ × α)} {k : κ} {v : α}, k ∉ zAl l → zE8 (l ++ [(k, v)]) k = l
  | [], k, v, _ => by simp [zE8]
  | (a, b) :: l, k, v, h => by
    simp only [zAl, List.map_cons, List.mem_cons, not_or] at h; simp only [List.cons_append, zE8]; rw [if_neg (fun e => h.1 e.symm), adel_app_new h.2]
theorem aput_app_new {κ α : Type} [DecidableEq κ] {l : List (κ × α)} {k : κ} {v v' : α} (h : k ∉ zAl l) : zCd (l ++ [(k, v)]) k v' = l ++ [(k, v')] := by
  induction l with
  | nil => simp [zCd]
  | cons x l ih =>
    obtain ⟨a, b⟩ := x; simp only [zAl, List.map_cons, List.mem_cons, not_or] at h; simp only [List.cons_append, zCd]; rw [if_neg (fun e => h.1 e.symm), ih h.2]
def useL (fs : List (Nat × Fl)) (l : List (ByteArray × Nat)) : Nat := (l.map fun x => ((zB5 fs x.2).map (·.b.length)).getD 0).sum
theorem useL_snoc {fs : List (Nat × Fl)} {l : List (ByteArray × Nat)} {k : Nat} {F : Fl} (n : ByteArray) (hk : k ∉ zAl fs) (hl : ∀ x ∈ l, x.2 ∈ zAl fs) : useL (fs ++ [(k, F)]) (l ++ [(n, k)]) = useL fs l + F.b.length := by
  simp only [useL, List.map_append, List.sum_append, List.map_cons, List.map_nil, zC hk]
  congr 1
  · congr 1
    exact List.map_congr_left fun x hx => by rw [zDj hk (fun e => hk (e ▸ hl x hx))]
/-- What holds at the i-th file. -/
structure RoomI (room i u : Nat) (d : Dk) : Prop where
  ok : d.ok
  up : d.down = false
  arm : d.armed = 0
  rm : d.room = room
  files : d.files = i
  calls : d.calls ≤ 3 * i
  names : ∀ x ∈ d.names, ∃ j, j < i ∧ x.1 = nmI j
  used : u = d.used
  fits : u ≤ room
theorem RoomI.fresh {room i u : Nat} (h : RoomI room i u d) (hi : i < 20) : nmI i ∉ zAl d.names := fun hm => by
  obtain ⟨x, hx, e⟩ := List.mem_map.1 hm; obtain ⟨j, hj, e2⟩ := h.names x hx; have := nmI_inj (by omega) hi (e2.symm.trans e)
  omega
/-- Behind the file that is made, with bytes or without. -/
def roomD (d : Dk) (i : Nat) (b : List UInt8) (c : Nat) : Dk := ⟨d.room, d.names ++ [(nmI i, i + 1)], d.kept, d.changes ++ [⟨nmI i, ByteArray.empty, some (i + 1)⟩], i + 1, 0, false, d.calls + c, d.fs ++ [(i + 1, ⟨i + 1, b, 0⟩)]⟩
theorem RoomI.key {room i u : Nat} (h : RoomI room i u d) : i + 1 ∉ zAl d.fs := by have := h.ok.fresh; rw [h.files] at this; exact this
theorem RoomI.create {room i u : Nat} (h : RoomI room i u d) (hi : i < 20) : d.create (nmI i) = (0, roomD d i [] 1) := by
  rw [Dk.create_up h.up h.arm (nmI_valid i hi) ((zBe _ _).2 (h.fresh hi))]; simp only [Dk.change, Chg.app, roomD, h.files, h.up, h.arm, aput_end (h.fresh hi), if_true]
theorem RoomI.used_of {room i u : Nat} (h : RoomI room i u d) (b : List UInt8) (c : Nat) : (roomD d i b c).used = u + b.length := by
  show useL (d.fs ++ [(i + 1, ⟨i + 1, b, 0⟩)]) (d.names ++ [(nmI i, i + 1)]) = _
  rw [useL_snoc _ h.key h.ok.nin, h.used]
  rfl
theorem RoomI.named {room i u : Nat} (h : RoomI room i u d) (hi : i < 20) (b : List UInt8) (c : Nat) : zB5 (roomD d i b c).names (nmI i) = some (i + 1) := zC (h.fresh hi)
theorem RoomI.append {room i u : Nat} (h : RoomI room i u d) (hi : i < 20) (b : List UInt8) (hf : u + b.length ≤ room) : (roomD d i [] 1).append (nmI i) b = (0, roomD d i b 2) := by
  have hu := h.used_of [] 1; rw [Dk.append_up rfl rfl (h.named hi [] 1) (by rw [hu]; show _ ≤ d.room; rw [h.rm]; simpa using hf)]
  have hfl : (roomD d i [] 1).fl (i + 1) = ⟨i + 1, [], 0⟩ := by simp [Dk.fl, roomD, zC h.key]
  rw [hfl]; simp only [Dk.setF, roomD, aput_app_new h.key, List.nil_append]
theorem RoomI.lenR {room i u : Nat} (h : RoomI room i u d) (hi : i < 20) (b : List UInt8) (c : Nat) : (roomD d i b c).lenR (nmI i) = (0, b.length) := by
  have e : (roomD d i b c).file (nmI i) = (0, some (i + 1)) := by
    unfold Dk.file
    rw [h.named hi b c]
    rfl
  simp only [Dk.lenR, e]
  simp [Dk.fl, roomD, zC h.key]
def roomR (d : Dk) (i : Nat) (b : List UInt8) (c : Nat) : Dk := ⟨d.room, d.names, d.kept, d.changes ++ [⟨nmI i, ByteArray.empty, some (i + 1)⟩] ++ [⟨ByteArray.empty, nmI i, none⟩], i + 1, 0, false, d.calls + c + 1, d.fs ++ [(i + 1, ⟨i + 1, b, 0⟩)]⟩
theorem RoomI.remove {room i u : Nat} (h : RoomI room i u d) (hi : i < 20) (b : List UInt8) (c : Nat) : (roomD d i b c).remove (nmI i) = (0, roomR d i b c) := by
  rw [Dk.remove_up rfl rfl (h.named hi b c)]
  have hne : nmI i ≠ ByteArray.empty := fun e => absurd (congrArg (fun b : ByteArray => b.data.size) e) (by show ¬ 1 = 0; decide)
  simp only [Dk.change, Chg.app, roomD, roomR, if_neg hne, adel_app_new (h.fresh hi)]
theorem RoomI.next {room i u : Nat} (h : RoomI room i u d) {b : List UInt8} {c : Nat} (hc : c ≤ 2) (ho : (roomD d i b c).ok) (hf : u + b.length ≤ room) : RoomI room (i + 1) (u + b.length) (roomD d i b c) :=
  ⟨ho, rfl, rfl, h.rm, rfl, by have := h.calls; show d.calls + c ≤ _; omega, fun x hx => by
    rcases List.mem_append.1 hx with hx | hx
    · obtain ⟨j, hj, e⟩ := h.names x hx; exact ⟨j, by omega, e⟩
    · simp only [List.mem_cons, List.not_mem_nil, or_false] at hx; subst hx; exact ⟨i, by omega, rfl⟩, (h.used_of b c).symm, hf⟩
end Go.Proofs.YtdkgdjnbpjjfmaaGreatDoor
namespace Go.Proofs.YtdkgdjnbpjjfmaaGreatDoor
set_option linter.all false
open Go.RowKit
variable {d : Dk} {s t : ByteArray} {b : List UInt8}

/-- The disk d with other names, changes, files. -/
abbrev pw (d : Dk) (l : List (ByteArray × Nat)) (ch : List Chg) (n : Nat) (fs : List (Nat × Fl)) (a : Nat) (dn : Bool) (c : Nat) : Dk := ⟨d.room, l, d.kept, ch, n, a, dn, c, fs⟩
theorem pw_begin {l : List (ByteArray × Nat)} {ch : List Chg} {n : Nat} {fs : List (Nat × Fl)} {a c : Nat} : (pw d l ch n fs a false c).begin = if a = 1 then (110, pw d l ch n fs 0 true c) else (0, pw d l ch n fs (a - 1) false c) := by
  unfold Dk.begin
  by_cases h0 : a = 0
  · subst h0; rfl
  · by_cases h1 : a = 1
    · subst h1; rfl
    · simp [h0, h1]
theorem pw_find {l : List (ByteArray × Nat)} {ch : List Chg} {n : Nat} {fs : List (Nat × Fl)} {a c i : Nat} {m : ByteArray} (hm : zB5 l m = some i) : (pw d l ch n fs a false c).find m = if a = 1 then (110, none, pw d l ch n fs 0 true c) else (0, some i, pw d l ch n fs (a - 1) false c) := by
  unfold Dk.find
  rw [pw_begin]
  by_cases h1 : a = 1
  · simp [h1]
  · simp [h1, Dk.file, hm]
theorem adel_none {κ α : Type} [DecidableEq κ] : ∀ {l : List (κ × α)} {k : κ}, zB5 l k = none → zE8 l k = l
  | [], _, _ => rfl
  | (a, b) :: l, k, h => by
    simp only [zB5] at h
    split at h
    · cases h
    · rename_i e
      simp only [zE8]; rw [if_neg e, adel_none h]
abbrev rmC (t : ByteArray) : Chg := ⟨ByteArray.empty, t, none⟩
abbrev crC (t : ByteArray) (j : Nat) : Chg := ⟨t, ByteArray.empty, some j⟩
abbrev rnC (s t : ByteArray) (j : Nat) : Chg := ⟨s, t, some j⟩
theorem newN_ne (s : ByteArray) : zCc s ≠ s := fun e => by
  have := congrArg (fun x : ByteArray => x.size) e; simp only [zCc, ByteArray.size_append] at this; have h4 : (⟨#[46, 110, 101, 119]⟩ : ByteArray).size = 4 := rfl
  omega
theorem newN_some (s : ByteArray) : zCc s ≠ ByteArray.empty := fun e => by
  have := congrArg (fun x : ByteArray => x.size) e; simp only [zCc, ByteArray.size_append] at this; have h4 : (⟨#[46, 110, 101, 119]⟩ : ByteArray).size = 4 := rfl; have h0 : ByteArray.empty.size = 0 := rfl
  omega
/-- Names without the one beside. -/
def wl (s : ByteArray) (d : Dk) : List (ByteArray × Nat) := zE8 d.names (zCc s)
def wc (s : ByteArray) (d : Dk) : List Chg := d.changes ++ (if (zB5 d.names (zCc s)).isSome then [rmC (zCc s)] else [])
structure UpD (d : Dk) : Prop where
  ok : d.ok
  up : d.down = false
structure Calm (d : Dk) : Prop extends UpD d where
  kept : d.names = d.kept
  still : d.changes = []
theorem UpD.fresh (h : UpD d) : zCc s ∉ zAl (wl s d) := by
  rw [wl, keys_del h.ok.nnd]
  simp
theorem UpD.key (h : UpD d) : d.files + 1 ∉ zAl d.fs := h.ok.fresh
theorem UpD.form (h : UpD d) : d = pw d d.names d.changes d.files d.fs d.armed false d.calls := by
  have h1 := h.up; obtain ⟨room, names, kept, changes, files, armed, down, calls, fs⟩ := d; simp only at h1; subst h1
  rfl
section
variable (h : UpD d) {a c : Nat}
include h
theorem UpD.st0 : (pw d d.names d.changes d.files d.fs a false c).wstep s b 0 = if (zB5 d.names (zCc s)).isSome = true ∧ a = 1 then (110, pw d d.names d.changes d.files d.fs 0 true c) else (0, pw d (wl s d) (wc s d) d.files d.fs (if (zB5 d.names (zCc s)).isSome then a - 1 else a) false (if (zB5 d.names (zCc s)).isSome then c + 1 else c)) := by
  cases hn : zB5 d.names (zCc s) with
  | none =>
    have h1 : (pw d d.names d.changes d.files d.fs a false c).lenR (zCc s) = (107, 0) := by simp [Dk.lenR, Dk.file, hn]
    simp only [Dk.wstep, h1, wl, wc, hn, adel_none hn]
    simp
  | some i =>
    obtain ⟨m, h1⟩ : ∃ m, (pw d d.names d.changes d.files d.fs a false c).lenR (zCc s) = (0, m) := ⟨_, by simp only [Dk.lenR, Dk.file, hn]; rfl⟩; simp only [Dk.wstep, h1, Dk.remove, pw_find hn]
    by_cases ha : a = 1
    · simp [ha]
    · simp [ha, wl, wc, hn, Dk.change, Chg.app, newN_some]
theorem UpD.st1 (hv : zCa (zCc s).data.toList = true) : (pw d (wl s d) (wc s d) d.files d.fs a false c).wstep s b 1 = if a = 1 then (110, pw d (wl s d) (wc s d) d.files d.fs 0 true c) else (0, pw d (wl s d ++ [(zCc s, d.files + 1)]) (wc s d ++ [crC (zCc s) (d.files + 1)]) (d.files + 1) (d.fs ++ [(d.files + 1, ⟨d.files + 1, [], 0⟩)]) (a - 1) false (c + 1)) := by
  have hf := (zBe _ _).2 (h.fresh (s := s)); simp only [Dk.wstep, Dk.create, pw_begin]
  by_cases ha : a = 1
  · simp [ha]
  · simp only [if_neg ha, hv, hf, Dk.change, Chg.app]
    simp
    exact aput_end h.fresh
theorem UpD.st2 (hr : useL d.fs (wl s d) + (b.length + 4) ≤ d.room) : (pw d (wl s d ++ [(zCc s, d.files + 1)]) (wc s d ++ [crC (zCc s) (d.files + 1)]) (d.files + 1) (d.fs ++ [(d.files + 1, ⟨d.files + 1, [], 0⟩)]) a false c).wstep s b 2 = if a = 1 then (110, pw d (wl s d ++ [(zCc s, d.files + 1)]) (wc s d ++ [crC (zCc s) (d.files + 1)]) (d.files + 1) (d.fs ++ [(d.files + 1, ⟨d.files + 1, [], 0⟩)]) 0 true c) else (0, pw d (wl s d ++ [(zCc s, d.files + 1)]) (wc s d ++ [crC (zCc s) (d.files + 1)]) (d.files + 1) (d.fs ++ [(d.files + 1, ⟨d.files + 1, zBt b, 0⟩)]) (a - 1) false (c + 1)) := by
  have hf : zB5 (wl s d ++ [(zCc s, d.files + 1)]) (zCc s) = some (d.files + 1) := zC h.fresh
  have hin : ∀ x ∈ wl s d, x.2 ∈ zAl d.fs := fun x hx => h.ok.nin x (adel_in hx)
  simp only [Dk.wstep, Dk.append, pw_find hf]
  by_cases ha : a = 1
  · simp [ha]
  · simp only [if_neg ha]
    have hu : ∀ a c, (pw d (wl s d ++ [(zCc s, d.files + 1)]) (wc s d ++ [crC (zCc s) (d.files + 1)]) (d.files + 1) (d.fs ++ [(d.files + 1, ⟨d.files + 1, [], 0⟩)]) a false c).used = useL d.fs (wl s d) := fun a c => (useL_snoc _ h.key hin).trans (by simp)
    rw [if_neg (by rw [hu, zC1]; show ¬ (d.room < _); omega)]
    have hfl : ∀ a c, (pw d (wl s d ++ [(zCc s, d.files + 1)]) (wc s d ++ [crC (zCc s) (d.files + 1)]) (d.files + 1) (d.fs ++ [(d.files + 1, ⟨d.files + 1, [], 0⟩)]) a false c).fl (d.files + 1) = ⟨d.files + 1, [], 0⟩ := fun a c => by simp [Dk.fl, zC h.key]
    rw [hfl]
    simp [Dk.setF, aput_app_new h.key]
theorem UpD.st3 : (pw d (wl s d ++ [(zCc s, d.files + 1)]) (wc s d ++ [crC (zCc s) (d.files + 1)]) (d.files + 1) (d.fs ++ [(d.files + 1, ⟨d.files + 1, zBt b, 0⟩)]) a false c).wstep s b 3 = if a = 1 then (110, pw d (wl s d ++ [(zCc s, d.files + 1)]) (wc s d ++ [crC (zCc s) (d.files + 1)]) (d.files + 1) (d.fs ++ [(d.files + 1, ⟨d.files + 1, zBt b, 0⟩)]) 0 true c) else (0, pw d (wl s d ++ [(zCc s, d.files + 1)]) (wc s d ++ [crC (zCc s) (d.files + 1)]) (d.files + 1) (d.fs ++ [(d.files + 1, ⟨d.files + 1, zBt b, (zBt b).length⟩)]) (a - 1) false (c + 1)) := by
  have hf : zB5 (wl s d ++ [(zCc s, d.files + 1)]) (zCc s) = some (d.files + 1) := zC h.fresh; simp only [Dk.wstep, Dk.sync, pw_find hf]
  by_cases ha : a = 1
  · simp [ha]
  · simp only [if_neg ha]
    have hfl : ∀ a c, (pw d (wl s d ++ [(zCc s, d.files + 1)]) (wc s d ++ [crC (zCc s) (d.files + 1)]) (d.files + 1) (d.fs ++ [(d.files + 1, ⟨d.files + 1, zBt b, 0⟩)]) a false c).fl (d.files + 1) = ⟨d.files + 1, zBt b, 0⟩ := fun a c => by simp [Dk.fl, zC h.key]
    rw [hfl]
    simp [Dk.setF, aput_app_new h.key]
theorem UpD.st4 {fs : List (Nat × Fl)} (hv : zCa s.data.toList = true) : (pw d (wl s d ++ [(zCc s, d.files + 1)]) (wc s d ++ [crC (zCc s) (d.files + 1)]) (d.files + 1) fs a false c).wstep s b 4 = if a = 1 then (110, pw d (wl s d ++ [(zCc s, d.files + 1)]) (wc s d ++ [crC (zCc s) (d.files + 1)]) (d.files + 1) fs 0 true c) else (0, pw d (zCd (wl s d) s (d.files + 1)) (wc s d ++ [crC (zCc s) (d.files + 1)] ++ [rnC s (zCc s) (d.files + 1)]) (d.files + 1) fs (a - 1) false (c + 1)) := by
  have hf : zB5 (wl s d ++ [(zCc s, d.files + 1)]) (zCc s) = some (d.files + 1) := zC h.fresh; simp only [Dk.wstep, Dk.rename, pw_find hf]
  by_cases ha : a = 1
  · simp [ha]
  · simp only [if_neg ha]
    rw [if_neg (by simp [hv]), if_neg (newN_ne s)]; simp only [Dk.change, Chg.app, if_neg (newN_some s), adel_app_new h.fresh]
end
theorem pw_st5 {l : List (ByteArray × Nat)} {ch : List Chg} {n : Nat} {fs : List (Nat × Fl)} {a c : Nat} : (pw d l ch n fs a false c).wstep s b 5 = if a = 1 then (110, pw d l ch n fs 0 true c) else (0, ⟨d.room, l, l, [], n, a - 1, false, c + 1, fs⟩) := by
  simp only [Dk.wstep, Dk.syncDir, pw_begin]
  by_cases ha : a = 1
  · simp [ha]
  · simp [ha]

/-- What the power may have left of a Write: the names that were synced, changes that touch two names alone; the file that is to be is whole once it takes the name. -/
structure Mid (d : Dk) (s : ByteArray) (b : List UInt8) (e : Dk) : Prop where
  len : ∀ i F, zB5 e.fs i = some F → zB5 d.fs i = some F ∨ F.b.length ≤ b.length + 4
  room : e.room = d.room
  kept : e.kept = d.kept
  old : ∀ i F, zB5 d.fs i = some F → zB5 e.fs i = some F
  chs : ∀ c ∈ e.changes, c ∈ d.changes ∨ c = rmC (zCc s) ∨ c = crC (zCc s) (d.files + 1) ∨ c = rnC s (zCc s) (d.files + 1) ∧ zB5 e.fs (d.files + 1) = some ⟨d.files + 1, zBt b, (zBt b).length⟩
/-- What a Write that is done leaves. -/
structure Done (d : Dk) (s : ByteArray) (b : List UInt8) (e : Dk) : Prop where
  room : e.room = d.room
  up : e.down = false
  kept : e.names = e.kept
  still : e.changes = []
  names : e.names = zCd (wl s d) s (d.files + 1)
  old : ∀ i F, zB5 d.fs i = some F → zB5 e.fs i = some F
  new : zB5 e.fs (d.files + 1) = some ⟨d.files + 1, zBt b, (zBt b).length⟩
  arm : d.armed = 0 → e.armed = 0
  fs : e.fs = d.fs ++ [(d.files + 1, ⟨d.files + 1, zBt b, (zBt b).length⟩)]
theorem Dk.wrun_succ (f k : Nat) (d : Dk) : Dk.wrun s b (f + 1) k d = if (d.wstep s b k).1 = 0 then Dk.wrun s b f (k + 1) (d.wstep s b k).2 else d.wstep s b k := rfl
theorem zG2 {f k : Nat} {e e1 e2 : Dk} {a : Nat} {p : Prop} [Decidable p] (hst : e.wstep s b k = if p then (110, e1) else (0, e2)) : Dk.wrun s b (f + 1) k e = if p then (110, e1) else Dk.wrun s b f (k + 1) e2 := by
  rw [Dk.wrun_succ, hst]
  by_cases hp : p
  · simp [hp]
  · simp [hp]
theorem UpD.write (h : UpD d) (hv : zCa s.data.toList = true) (hv2 : zCa (zCc s).data.toList = true) (hr : useL d.fs (wl s d) + (b.length + 4) ≤ d.room) :
    ∃ k e, d.write s b = (k, e) ∧ (k = 0 ∧ Done d s b e ∨ k = 110 ∧ e.down = true ∧ d.armed ≠ 0 ∧ Mid d s b e) := by
  have hw : d.write s b = Dk.wrun s b 6 0 (pw d d.names d.changes d.files d.fs d.armed false d.calls) := by
    unfold Dk.write
    rw [if_pos ⟨hv, hv2⟩, ← h.form]
  have hold : ∀ (F : Fl) i G, zB5 d.fs i = some G → zB5 (d.fs ++ [(d.files + 1, F)]) i = some G := fun F i G hG => by rw [zDj h.key (fun e => h.key (e ▸ zEn hG)), hG]
  have hwc : ∀ x ∈ wc s d, x ∈ d.changes ∨ x = rmC (zCc s) := fun x hx => by
    unfold wc at hx
    rcases List.mem_append.1 hx with hx | hx
    · exact .inl hx
    · split at hx
      · exact .inr (by simpa using hx)
      · simp at hx
  have m0 : ∀ a dn c, Mid d s b (pw d d.names d.changes d.files d.fs a dn c) := fun a dn c => ⟨fun i F hF => .inl hF, rfl, rfl, fun i F hF => hF, fun c hc => .inl hc⟩
  have m1 : ∀ a dn c, Mid d s b (pw d (wl s d) (wc s d) d.files d.fs a dn c) := fun a dn c => ⟨fun i F hF => .inl hF, rfl, rfl, fun i F hF => hF, fun c hc => (hwc c hc).imp id .inl⟩
  have hlen : ∀ (F : Fl), F.b.length ≤ b.length + 4 → ∀ i G, zB5 (d.fs ++ [(d.files + 1, F)]) i = some G → zB5 d.fs i = some G ∨ G.b.length ≤ b.length + 4 := fun F hF i G hG => by
    by_cases e : i = d.files + 1
    · subst e; rw [zC h.key] at hG; cases hG; exact .inr hF
    · rw [zDj h.key e] at hG; exact .inl hG
  have m2 : ∀ F, F.b.length ≤ b.length + 4 → ∀ a dn c, Mid d s b (pw d (wl s d ++ [(zCc s, d.files + 1)]) (wc s d ++ [crC (zCc s) (d.files + 1)]) (d.files + 1) (d.fs ++ [(d.files + 1, F)]) a dn c) := fun F hF a dn c => ⟨hlen F hF, rfl, rfl, hold F, fun c hc => by
    rcases List.mem_append.1 hc with hc | hc
    · exact (hwc c hc).imp id .inl
    · simp only [List.mem_cons, List.not_mem_nil, or_false] at hc; exact .inr (.inr (.inl hc))⟩
  have m5 : ∀ a dn c, Mid d s b (pw d (zCd (wl s d) s (d.files + 1)) (wc s d ++ [crC (zCc s) (d.files + 1)] ++ [rnC s (zCc s) (d.files + 1)]) (d.files + 1) (d.fs ++ [(d.files + 1, ⟨d.files + 1, zBt b, (zBt b).length⟩)]) a dn c) := fun a dn c => ⟨hlen _ (by rw [zC1]; exact Nat.le_refl _), rfl, rfl, hold _, fun c hc => by
    rcases List.mem_append.1 hc with hc | hc
    · rcases List.mem_append.1 hc with hc | hc
      · exact (hwc c hc).imp id .inl
      · simp only [List.mem_cons, List.not_mem_nil, or_false] at hc; exact .inr (.inr (.inl hc))
    · simp only [List.mem_cons, List.not_mem_nil, or_false] at hc; exact .inr (.inr (.inr ⟨hc, zC h.key⟩))⟩
  rw [hw, zG2 (a := 0) h.st0]
  by_cases p0 : (zB5 d.names (zCc s)).isSome = true ∧ d.armed = 1
  · rw [if_pos p0]; exact ⟨_, _, rfl, .inr ⟨rfl, rfl, by omega, m0 _ _ _⟩⟩
  rw [if_neg p0]; obtain ⟨a1, h1⟩ : ∃ a1, (if (zB5 d.names (zCc s)).isSome then d.armed - 1 else d.armed) = a1 := ⟨_, rfl⟩; obtain ⟨c1, g1⟩ : ∃ c1, (if (zB5 d.names (zCc s)).isSome then d.calls + 1 else d.calls) = c1 := ⟨_, rfl⟩
  have ha1 : d.armed = 0 → a1 = 0 := fun e => by rw [← h1, e]; split <;> rfl
  rw [h1, g1, zG2 (a := 0) (h.st1 hv2)]
  by_cases p1 : a1 = 1
  · rw [if_pos p1]; exact ⟨_, _, rfl, .inr ⟨rfl, rfl, fun e => by have := ha1 e; omega, m1 _ _ _⟩⟩
  rw [if_neg p1, zG2 (a := 0) (h.st2 hr)]
  by_cases p2 : a1 - 1 = 1
  · rw [if_pos p2]; exact ⟨_, _, rfl, .inr ⟨rfl, rfl, fun e => by have := ha1 e; omega, m2 _ (by simp [zC1]) _ _ _⟩⟩
  rw [if_neg p2, zG2 (a := 0) h.st3]
  by_cases p3 : a1 - 1 - 1 = 1
  · rw [if_pos p3]; exact ⟨_, _, rfl, .inr ⟨rfl, rfl, fun e => by have := ha1 e; omega, m2 _ (by simp [zC1]) _ _ _⟩⟩
  rw [if_neg p3, zG2 (a := 0) (h.st4 hv)]
  by_cases p4 : a1 - 1 - 1 - 1 = 1
  · rw [if_pos p4]; exact ⟨_, _, rfl, .inr ⟨rfl, rfl, fun e => by have := ha1 e; omega, m2 _ (by simp [zC1]) _ _ _⟩⟩
  rw [if_neg p4, zG2 (a := 0) pw_st5]
  by_cases p5 : a1 - 1 - 1 - 1 - 1 = 1
  · rw [if_pos p5]; exact ⟨_, _, rfl, .inr ⟨rfl, rfl, fun e => by have := ha1 e; omega, m5 _ _ _⟩⟩
  rw [if_neg p5]; exact ⟨_, _, rfl, .inl ⟨rfl, rfl, rfl, rfl, rfl, rfl, hold _, zC h.key, fun e => by have := ha1 e; show a1 - 1 - 1 - 1 - 1 - 1 = 0; omega, rfl⟩⟩
end Go.Proofs.YtdkgdjnbpjjfmaaGreatDoor
namespace Go.Proofs.YtdkgdjnbpjjfmaaGreatDoor
set_option linter.all false
open Go.RowKit
variable {d e : Dk} {s : ByteArray} {b : List UInt8}

theorem Fl.crashed_whole {F : Fl} (h : F.syn = F.b.length) (picks : List Int) (k : Nat) : F.crashed picks k = F := by
  obtain ⟨i, b, q⟩ := F; simp only at h; subst h
  have h0 : pickN picks (k + 1) 0 = 0 := by have := pickN_le picks (k + 1) 0; omega
  simp [Fl.crashed, h0]
theorem zCs {picks : List Int} {i : Nat} {F : Fl} (hF : F.syn = F.b.length) : ∀ (l : List Nat) (k : Nat) (fs : List (Nat × Fl)), zB5 fs i = some F → zB5 (zDz picks k l fs) i = some F
  | [], _, _, h => h
  | j :: l, k, fs, h => by
    refine zCs hF l (k + 1) _ ?_
    cases hj : zB5 fs j with
    | none => exact h
    | some G =>
      by_cases e : i = j
      · subst e
        rw [h] at hj
        cases hj
        simp only [zB9, Fl.crashed_whole hF]
      · rw [← h]; exact zB1 _ _ e
theorem aget_adel {κ α : Type} [DecidableEq κ] {l : List (κ × α)} {k j : κ} (h : j ≠ k) : zB5 (zE8 l k) j = zB5 l j := zCk l h
/-- What is under two names may have changed, no other. -/
structure Near (l0 : List (ByteArray × Nat)) (s t : ByteArray) (S : Prop) (j : Nat) (l : List (ByteArray × Nat)) : Prop where
  nd : (zAl l).Nodup
  other : ∀ n, n ≠ s → n ≠ t → zB5 l n = zB5 l0 n
  at_s : zB5 l s = zB5 l0 s ∨ zB5 l s = some j ∧ S
theorem Near.app {l0 l : List (ByteArray × Nat)} {t : ByteArray} {S : Prop} {j : Nat} {c : Chg} (h : Near l0 s t S j l) (hst : t ≠ s) (ht : t ≠ ByteArray.empty) (hc : c = rmC t ∨ c = crC t j ∨ c = rnC s t j ∧ S) : Near l0 s t S j (c.app l) := by
  rcases hc with rfl | rfl | ⟨rfl, hS⟩
  · refine ⟨Chg.app_nodup h.nd, fun n h1 h2 => ?_, ?_⟩
    · simp only [Chg.app, if_neg ht]; rw [aget_adel h2]; exact h.other n h1 h2
    · simp only [Chg.app, if_neg ht]; rw [aget_adel (Ne.symm hst)]; exact h.at_s
  · refine ⟨Chg.app_nodup h.nd, fun n h1 h2 => ?_, ?_⟩
    · simp only [Chg.app, if_true]; rw [zB1 _ _ h2]; exact h.other n h1 h2
    · simp only [Chg.app, if_true]; rw [zB1 _ _ (Ne.symm hst)]; exact h.at_s
  · refine ⟨Chg.app_nodup h.nd, fun n h1 h2 => ?_, .inr ⟨?_, hS⟩⟩
    · simp only [Chg.app, if_neg ht]; rw [zB1 _ _ h1, aget_adel h2]; exact h.other n h1 h2
    · simp only [Chg.app]; exact zB9 _ _ _
theorem Near.all {l0 : List (ByteArray × Nat)} {t : ByteArray} {S : Prop} {j : Nat} (hst : t ≠ s) (ht : t ≠ ByteArray.empty) : ∀ {cs : List Chg} {l : List (ByteArray × Nat)}, Near l0 s t S j l → (∀ c ∈ cs, c = rmC t ∨ c = crC t j ∨ c = rnC s t j ∧ S) → Near l0 s t S j (zCr l cs)
  | [], _, h, _ => h
  | c :: cs, l, h, hc => show Near l0 s t S j (zCr (c.app l) cs) from Near.all (cs := cs) (l := c.app l) hst ht (h.app hst ht (hc c (List.mem_cons_self ..))) fun c' h' => hc c' (List.mem_cons_of_mem _ h')

/-- Under a name stands, whole and synced, v; or there is none. -/
def Under (d : Dk) (n : ByteArray) : Option (List UInt8) → Prop
  | none => zB5 d.names n = none
  | some v => ∃ i q, zB5 d.names n = some i ∧ zB5 d.fs i = some ⟨q, zBt v, (zBt v).length⟩
def zDq (f : ByteArray → Option (List UInt8)) (s : ByteArray) (v : List UInt8) : ByteArray → Option (List UInt8) := fun n => if n = s then some v else f n
/-- The disk keeps f under the names N. -/
structure PtI (N : List ByteArray) (B : Nat) (f : ByteArray → Option (List UInt8)) (d : Dk) : Prop where
  calm : Calm d
  under : ∀ n ∈ N, Under d n (f n)
  keys : ∀ n ∈ zAl d.names, n ∈ N ∨ n ∈ N.map zCc
  len : ∀ i F, zB5 d.fs i = some F → F.b.length ≤ B
theorem useL_le {fs : List (Nat × Fl)} {B : Nat} (h : ∀ i F, zB5 fs i = some F → F.b.length ≤ B) : ∀ l : List (ByteArray × Nat), useL fs l ≤ l.length * B
  | [] => by simp [useL]
  | x :: l => by
    have ih := useL_le h l
    have h1 : ((zB5 fs x.2).map (·.b.length)).getD 0 ≤ B := by
      cases hx : zB5 fs x.2 with
      | none => exact Nat.zero_le _
      | some F => exact h _ F hx
    simp only [useL, List.map_cons, List.sum_cons, List.length_cons, Nat.succ_mul] at ih ⊢
    omega
theorem PtI.names_le {N : List ByteArray} {B : Nat} {f : ByteArray → Option (List UInt8)} (h : PtI N B f d) : d.names.length ≤ 2 * N.length := by
  have h1 : (zAl d.names).length ≤ (N ++ N.map zCc).length := h.calm.ok.nnd.length_le_of_subset fun n hn => List.mem_append.2 (h.keys n hn)
  simp [zAl] at h1
  omega
theorem PtI.room {N : List ByteArray} {B : Nat} {f : ByteArray → Option (List UInt8)} (h : PtI N B f d) (s : ByteArray) : useL d.fs (wl s d) ≤ 2 * N.length * B := by
  have h1 := useL_le h.len (wl s d); have h2 : (wl s d).length ≤ 2 * N.length := Nat.le_trans (adel_len _ _) h.names_le; exact Nat.le_trans h1 (Nat.mul_le_mul_right _ h2)
theorem Done.pt {N : List ByteArray} {B : Nat} {f : ByteArray → Option (List UInt8)} (h : PtI N B f d) (hs : s ∈ N) (hN : ∀ n ∈ N, zCc s ≠ n) (hb : b.length + 4 ≤ B) (he : e.ok) (m : Done d s b e) : PtI N B (zDq f s b) e := by
  have hag : ∀ n, n ≠ s → n ≠ zCc s → zB5 e.names n = zB5 d.names n := fun n h1 h2 => by rw [m.names, zB1 _ _ h1, wl, aget_adel h2]
  refine ⟨⟨⟨he, m.up⟩, m.kept, m.still⟩, fun n hn => ?_, fun n hn => ?_, fun i F hF => ?_⟩
  · unfold zDq
    by_cases e1 : n = s
    · subst e1
      rw [if_pos rfl]; exact ⟨_, _, by rw [m.names, zB9], m.new⟩
    · rw [if_neg e1]
      have h1 := h.under n hn; have h2 := hag n e1 (Ne.symm (hN n hn))
      cases hf : f n with
      | none => rw [hf] at h1; exact h2.trans h1
      | some v => rw [hf] at h1; obtain ⟨i, q, k1, k2⟩ := h1; exact ⟨i, q, h2.trans k1, m.old i _ k2⟩
  · by_cases e1 : n = s
    · subst e1; exact .inl hs
    · by_cases e2 : n = zCc s
      · subst e2; exact .inr (List.mem_map_of_mem hs)
      · refine h.keys n ?_
        obtain ⟨v, hv⟩ := zE hn; rw [hag n e1 e2] at hv; exact zEn hv
  · rw [m.fs] at hF
    by_cases e1 : i = d.files + 1
    · subst e1; rw [zC h.calm.key] at hF; cases hF; show (zBt b).length ≤ B; rw [zC1]; exact hb
    · rw [zDj h.calm.key e1] at hF; exact h.len i F hF
theorem Mid.pt {N : List ByteArray} {B : Nat} {f : ByteArray → Option (List UInt8)} (h : PtI N B f d) (hs : s ∈ N) (hN : ∀ n ∈ N, zCc s ≠ n) (hb : b.length + 4 ≤ B) (he : e.ok) (m : Mid d s b e) (picks : List Int) : PtI N B f (e.crash picks) ∨ PtI N B (zDq f s b) (e.crash picks) := by
  have hn0 : Near d.names s (zCc s) (zB5 e.fs (d.files + 1) = some ⟨d.files + 1, zBt b, (zBt b).length⟩) (d.files + 1) e.kept := by
    rw [m.kept, ← h.calm.kept]; exact ⟨h.calm.ok.nnd, fun n _ _ => rfl, .inl rfl⟩
  have hn := hn0.all (newN_ne s) (newN_some s) (cs := e.changes.take (pickN picks 0 e.changes.length)) fun c hc => (m.chs c (List.mem_of_mem_take hc)).resolve_left (fun h1 => by rw [h.calm.still] at h1; simp at h1)
  have hok := he.crash picks; have hcalm : Calm (e.crash picks) := ⟨⟨hok, rfl⟩, rfl, rfl⟩
  have hkeys : ∀ n ∈ zAl (e.crash picks).names, n ∈ N ∨ n ∈ N.map zCc := fun n hk => by
    by_cases e1 : n = s
    · subst e1; exact .inl hs
    · by_cases e2 : n = zCc s
      · subst e2; exact .inr (List.mem_map_of_mem hs)
      · refine h.keys n ?_
        obtain ⟨v, hv⟩ := zE hk; have hv : zB5 (zCr e.kept (e.changes.take (pickN picks 0 e.changes.length))) n = some v := hv; rw [hn.other n e1 e2] at hv; exact zEn hv
  have hlen : ∀ i F, zB5 (e.crash picks).fs i = some F → F.b.length ≤ B := fun i F hF => by
    have := zEp (P := fun i f => f.syn ≤ f.b.length ∧ f.b.length ≤ B) (fun i f picks k hf => by
      have h1 := Fl.crashed_fine hf.1 picks k
      exact ⟨h1.2.1, Nat.le_trans h1.2.2 hf.2⟩) (picks := picks) (keptIds e.fs (zCr e.kept (e.changes.take (pickN picks 0 e.changes.length)))) 0 e.fs (fun i f hf => ⟨(he.fid i f hf).2.1, by
        rcases m.len i f hf with h1 | h1
        · exact h.len i f h1
        · omega⟩) i F hF
    exact this.2
  have hold : ∀ n ∈ N, n ≠ s → Under (e.crash picks) n (f n) := fun n hnN hne => by
    have h1 := h.under n hnN; have h2 : zB5 (e.crash picks).names n = zB5 d.names n := hn.other n hne (Ne.symm (hN n hnN))
    cases hf : f n with
    | none => rw [hf] at h1; exact h2.trans h1
    | some v => rw [hf] at h1; obtain ⟨i, q, k1, k2⟩ := h1; exact ⟨i, q, h2.trans k1, zCs rfl _ _ _ (m.old i _ k2)⟩
  rcases hn.at_s with h1 | ⟨h1, h2⟩
  · refine .inl ⟨hcalm, fun n hnN => ?_, hkeys, hlen⟩
    by_cases e1 : n = s
    · subst e1
      have h3 := h.under n hnN; have h1 : zB5 (e.crash picks).names n = zB5 d.names n := h1
      cases hf : f n with
      | none => rw [hf] at h3; exact h1.trans h3
      | some v => rw [hf] at h3; obtain ⟨i, q, k1, k2⟩ := h3; exact ⟨i, q, h1.trans k1, zCs rfl _ _ _ (m.old i _ k2)⟩
    · exact hold n hnN e1
  · refine .inr ⟨hcalm, fun n hnN => ?_, hkeys, hlen⟩
    unfold zDq
    by_cases e1 : n = s
    · subst e1; rw [if_pos rfl]; exact ⟨_, _, h1, zCs rfl _ _ _ h2⟩
    · rw [if_neg e1]; exact hold n hnN e1
theorem PtI.crash {N : List ByteArray} {B : Nat} {f : ByteArray → Option (List UInt8)} (h : PtI N B f d) (picks : List Int) : PtI N B f (d.crash picks) := by
  have hnm : (d.crash picks).names = d.names := by
    show zCr d.kept (d.changes.take _) = d.names
    rw [h.calm.still, List.take_nil, h.calm.kept]
    rfl
  refine ⟨⟨⟨h.calm.ok.crash picks, rfl⟩, rfl, rfl⟩, fun n hn => ?_, fun n hn => h.keys n (hnm ▸ hn), fun i F hF => ?_⟩
  · have h1 := h.under n hn
    cases hf : f n with
    | none => rw [hf] at h1; show zB5 _ n = none; rw [hnm]; exact h1
    | some v => rw [hf] at h1; obtain ⟨i, q, k1, k2⟩ := h1; exact ⟨i, q, by rw [hnm]; exact k1, zCs rfl _ _ _ k2⟩
  · have := zEp (P := fun i f => f.syn ≤ f.b.length ∧ f.b.length ≤ B) (fun i f picks k hf => by
      have h1 := Fl.crashed_fine hf.1 picks k
      exact ⟨h1.2.1, Nat.le_trans h1.2.2 hf.2⟩) (picks := picks) (keptIds d.fs (zCr d.kept (d.changes.take (pickN picks 0 d.changes.length)))) 0 d.fs (fun i f hf => ⟨(h.calm.ok.fid i f hf).2.1, h.len i f hf⟩) i F hF
    exact this.2
theorem PtI.arm {N : List ByteArray} {B : Nat} {f : ByteArray → Option (List UInt8)} (h : PtI N B f d) {n : Nat} (hok : ({ d with armed := n } : Dk).ok) : PtI N B f { d with armed := n } :=
  ⟨⟨⟨hok, h.calm.up⟩, h.calm.kept, h.calm.still⟩, fun m hm => by have := h.under m hm; cases hf : f m <;> (rw [hf] at this; exact this), h.keys, h.len⟩
/-- A Write, whatever the power does. -/
theorem PtI.write {N : List ByteArray} {B : Nat} {f : ByteArray → Option (List UInt8)} (h : PtI N B f d) (hs : s ∈ N) (hN : ∀ n ∈ N, zCc s ≠ n) (hv : zCa s.data.toList = true) (hv2 : zCa (zCc s).data.toList = true) (hb : b.length + 4 ≤ B) (hr : 2 * N.length * B + B ≤ d.room) :
    ∃ k e, d.write s b = (k, e) ∧ e.room = d.room ∧ (k = 0 ∧ e.down = false ∧ (d.armed = 0 → e.armed = 0) ∧ (e.ok → PtI N B (zDq f s b) e) ∨ k = 110 ∧ e.down = true ∧ d.armed ≠ 0 ∧ (e.ok → ∀ picks, PtI N B f (e.crash picks) ∨ PtI N B (zDq f s b) (e.crash picks))) := by
  have h1 := h.room s; obtain ⟨k, e, hk, hd⟩ := h.calm.write (b := b) hv hv2 (by omega)
  rcases hd with ⟨h1, m⟩ | ⟨h1, h2, h3, m⟩
  · exact ⟨k, e, hk, m.room, .inl ⟨h1, m.up, m.arm, fun he => m.pt h hs hN hb he⟩⟩
  · exact ⟨k, e, hk, m.room, .inr ⟨h1, h2, h3, fun he picks => m.pt h hs hN hb he picks⟩⟩
def readO : Option (List UInt8) → Nat × List UInt8
  | none => (107, [])
  | some v => (0, v)
theorem Under.read {n : ByteArray} {o : Option (List UInt8)} (h : Under d n o) (hu : d.down = false) : d.pread n = readO o := by
  cases o with
  | none =>
    have h1 : zB5 d.names n = none := h
    simp [Dk.pread, Dk.lenR, Dk.file, hu, h1, readO]
  | some v =>
    obtain ⟨i, q, k1, k2⟩ := h
    have hl : d.lenR n = (0, (zBt v).length) := by simp [Dk.lenR, Dk.file, hu, k1, Dk.fl, k2]
    have hr : d.readR n 0 ((zBt v).length : Int) = (0, zBt v) := (Dk.readR_at (o := 0) (m := (zBt v).length) hu k1 k2 (by show 0 + (zBt v).length ≤ (zBt v).length; omega)).trans (by simp); simp only [Dk.pread, hl, hr, open_seal, readO]
    simp
theorem PtI.read {N : List ByteArray} {B : Nat} {f : ByteArray → Option (List UInt8)} (h : PtI N B f d) {n : ByteArray} (hn : n ∈ N) : d.pread n = readO (f n) := (h.under n hn).read h.calm.up
theorem Dk.wrun_calls (s : ByteArray) (b : List UInt8) : ∀ (f k : Nat) (d : Dk), (Dk.wrun s b f k d).2.calls ≤ d.calls + f
  | 0, _, _ => Nat.le_refl _
  | f + 1, k, d => by
    have h1 := d.wstep_calls s b k; have h2 := Dk.wrun_calls s b f (k + 1) (d.wstep s b k).2; rw [Dk.wrun_succ]
    split
    · omega
    · omega
theorem Dk.write_calls {k : Nat} (h : d.write s b = (k, e)) : e.calls ≤ d.calls + 6 := by
  unfold Dk.write at h
  split at h
  · have := Dk.wrun_calls s b 6 0 d; rw [h] at this; exact this
  · cases h; omega
theorem PtI.start {N : List ByteArray} {B r : Nat} (hr : r ≤ 4194304) : PtI N B (fun _ => none) (Dk.empty r) :=
  ⟨⟨⟨Dk.empty_ok hr, rfl⟩, rfl, rfl⟩, fun n _ => rfl, fun n hn => by simp [Dk.empty, zAl] at hn, fun i F hF => by cases hF⟩
end Go.Proofs.YtdkgdjnbpjjfmaaGreatDoor
namespace Go.Proofs.YtdkgdjnbpjjfmaaGreatDoor
set_option linter.all false
open Go.RowKit
variable {d e : Dk} {s n : ByteArray} {b v x : List UInt8} {N : List ByteArray} {B : Nat} {f : ByteArray → Option (List UInt8)}

/-- Under a name stands, synced, v; or there is none. -/
def Raw (d : Dk) (n : ByteArray) : Option (List UInt8) → Prop
  | none => zB5 d.names n = none
  | some v => ∃ i q, zB5 d.names n = some i ∧ zB5 d.fs i = some ⟨q, v, v.length⟩
/-- The names are kept, and what stands under them. -/
structure RawS (N : List ByteArray) (B : Nat) (f : ByteArray → Option (List UInt8)) (d : Dk) : Prop where
  kept : d.names = d.kept
  still : d.changes = []
  under : ∀ n ∈ N, Raw d n (f n)
  apart : ∀ n ∈ N, ∀ m ∈ N, ∀ i, zB5 d.names n = some i → zB5 d.names m = some i → n = m
  keys : ∀ n ∈ zAl d.names, n ∈ N ∨ n ∈ N.map zCc
  len : ∀ i F, zB5 d.fs i = some F → F.b.length ≤ B
structure RawI (N : List ByteArray) (B : Nat) (f : ByteArray → Option (List UInt8)) (d : Dk) : Prop where
  ok : d.ok
  up : d.down = false
  st : RawS N B f d
theorem Raw.same {o : Option (List UInt8)} (h : Raw d n o) (h1 : zB5 e.names n = zB5 d.names n) (h2 : ∀ i F, zB5 d.names n = some i → zB5 d.fs i = some F → F.syn = F.b.length → zB5 e.fs i = some F) : Raw e n o := by
  cases o with
  | none => exact h1.trans h
  | some v => obtain ⟨i, q, k1, k2⟩ := h; exact ⟨i, q, h1.trans k1, h2 i _ k1 k2 rfl⟩
theorem RawS.same (h : RawS N B f d) (h1 : e.names = d.names) (h2 : e.kept = d.kept) (h3 : e.changes = d.changes) (h4 : e.fs = d.fs) : RawS N B f e :=
  ⟨by rw [h1, h2]; exact h.kept, by rw [h3]; exact h.still, fun n hn => (h.under n hn).same (by rw [h1]) fun i F _ hF _ => by rw [h4]; exact hF, by rw [h1]; exact h.apart, by rw [h1]; exact h.keys, by rw [h4]; exact h.len⟩
theorem RawS.crash_names (h : RawS N B f d) (picks : List Int) : (d.crash picks).names = d.names := by
  show zCr d.kept (d.changes.take _) = d.names
  rw [h.still, List.take_nil, h.kept]
  rfl
theorem crash_len (ho : d.ok) (h : ∀ i F, zB5 d.fs i = some F → F.b.length ≤ B) (picks : List Int) : ∀ i F, zB5 (d.crash picks).fs i = some F → F.b.length ≤ B := fun i F hF => by
  have := zEp (P := fun i f => f.syn ≤ f.b.length ∧ f.b.length ≤ B) (fun i f picks k hf => by
      have h1 := Fl.crashed_fine hf.1 picks k
      exact ⟨h1.2.1, Nat.le_trans h1.2.2 hf.2⟩) (picks := picks) (keptIds d.fs (zCr d.kept (d.changes.take (pickN picks 0 d.changes.length)))) 0 d.fs (fun i f hf => ⟨(ho.fid i f hf).2.1, h i f hf⟩) i F hF
  exact this.2
theorem RawS.crash (h : RawS N B f d) (ho : d.ok) (picks : List Int) : RawI N B f (d.crash picks) := by
  have hnm := h.crash_names picks; exact ⟨ho.crash picks, rfl, rfl, rfl, fun n hn => (h.under n hn).same (by rw [hnm]) fun i F _ hF hw => zCs hw _ _ _ hF, by rw [hnm]; exact h.apart, by rw [hnm]; exact h.keys, crash_len ho h.len picks⟩
/-- Of what was not synced some bytes come back. -/
theorem RawS.part (h : RawS N B f d) (hs : s ∈ N) {i q : Nat} (hi : zB5 d.names s = some i) (ho : e.ok) (h1 : e.names = d.names) (h2 : e.kept = d.kept) (h3 : e.changes = d.changes) (h4 : ∀ j, j ≠ i → zB5 e.fs j = zB5 d.fs j) (hF : zB5 e.fs i = some ⟨q, v ++ x, v.length⟩) (hB : v.length + x.length ≤ B) (picks : List Int) : ∃ j, RawI N B (zDq f s (v ++ x.take j)) (e.crash picks) := by
  have hnm : (e.crash picks).names = d.names := by
    show zCr e.kept (e.changes.take _) = d.names
    rw [h3, h.still, List.take_nil, h2, h.kept]
    rfl
  have hnd : (keptIds e.fs (zCr e.kept (e.changes.take (pickN picks 0 e.changes.length)))).Nodup := (ho.keys_rise.filter _).imp fun h => Nat.ne_of_lt h
  have hin : i ∈ keptIds e.fs (zCr e.kept (e.changes.take (pickN picks 0 e.changes.length))) := keptIds_mem.2 ⟨zEn hF, by
    show i ∈ (e.crash picks).names.map (·.2)
    rw [hnm]
    exact List.mem_map.2 ⟨_, zDx hi, rfl⟩⟩
  obtain ⟨k, hk⟩ := List.mem_iff_getElem?.1 hin; have hat : zB5 (e.crash picks).fs i = some ((⟨q, v ++ x, v.length⟩ : Fl).crashed picks (0 + k)) := crashFs_at _ 0 _ hnd hk hF; obtain ⟨j, hj⟩ : ∃ j, pickN picks (0 + k + 1) ((v ++ x).length - v.length) = j := ⟨_, rfl⟩
  have ht : (v ++ x).take (v.length + j) = v ++ x.take j := by rw [List.take_append, List.take_of_length_le (by omega)]; simp
  have hat : zB5 (e.crash picks).fs i = some ⟨q, v ++ x.take j, (v ++ x.take j).length⟩ := by rw [hat]; simp only [Fl.crashed, hj, ht]
  refine ⟨j, ho.crash picks, rfl, rfl, rfl, fun n hn => ?_, by rw [hnm]; exact h.apart, by rw [hnm]; exact h.keys, crash_len ho (fun a F hF' => ?_) picks⟩
  · unfold zDq
    by_cases e1 : n = s
    · subst e1; rw [if_pos rfl]; exact ⟨i, q, by rw [hnm]; exact hi, hat⟩
    · rw [if_neg e1]
      refine (h.under n hn).same (by rw [hnm]) fun a F ha hF' hw => zCs hw _ _ _ ?_
      rw [h4 a fun ea => e1 (h.apart n hn s hs a ha (ea ▸ hi))]; exact hF'
  · by_cases ea : a = i
    · subst ea; rw [hF] at hF'; cases hF'; simpa using hB
    · rw [h4 a ea] at hF'; exact h.len a F hF'
theorem RawI.names_le (h : RawI N B f d) : d.names.length ≤ 2 * N.length := by
  have h1 : (zAl d.names).length ≤ (N ++ N.map zCc).length := h.ok.nnd.length_le_of_subset fun n hn => List.mem_append.2 (h.st.keys n hn)
  simp [zAl] at h1
  omega
theorem RawI.used (h : RawI N B f d) : d.used ≤ 2 * N.length * B := by
  have h1 : useL d.fs d.names ≤ d.names.length * B := useL_le h.st.len d.names; exact Nat.le_trans h1 (Nat.mul_le_mul_right _ h.names_le)
theorem RawI.calm (h : RawI N B f d) : Calm d := ⟨⟨h.ok, h.up⟩, h.st.kept, h.st.still⟩
theorem RawI.roomW (h : RawI N B f d) (s : ByteArray) : useL d.fs (wl s d) ≤ 2 * N.length * B := by
  have h1 := useL_le h.st.len (wl s d); have h2 : (wl s d).length ≤ 2 * N.length := Nat.le_trans (adel_len _ _) h.names_le; exact Nat.le_trans h1 (Nat.mul_le_mul_right _ h2)
theorem RawI.old_id (h : RawI N B f d) {i : Nat} (hi : zB5 d.names n = some i) : i ≠ d.files + 1 := fun e => h.ok.fresh (e ▸ h.ok.named hi)
theorem Done.raw (h : RawI N B f d) (hs : s ∈ N) (hN : ∀ n ∈ N, zCc s ≠ n) (hb : b.length + 4 ≤ B) (he : e.ok) (m : Done d s b e) : RawI N B (zDq f s (zBt b)) e := by
  have hag : ∀ n, n ≠ s → n ≠ zCc s → zB5 e.names n = zB5 d.names n := fun n h1 h2 => by rw [m.names, zB1 _ _ h1, wl, aget_adel h2]
  have has : zB5 e.names s = some (d.files + 1) := by rw [m.names, zB9]
  refine ⟨he, m.up, m.kept, m.still, fun n hn => ?_, fun n hn n' hn' i h1 h2 => ?_, fun n hn => ?_, fun i F hF => ?_⟩
  · unfold zDq
    by_cases e1 : n = s
    · subst e1; rw [if_pos rfl]; exact ⟨_, _, has, m.new⟩
    · rw [if_neg e1]; exact (h.st.under n hn).same (hag n e1 (Ne.symm (hN n hn))) fun i F _ hF _ => m.old i F hF
  · by_cases e1 : n = s
    · by_cases e2 : n' = s
      · rw [e1, e2]
      · rw [e1, has] at h1
        rw [hag n' e2 (Ne.symm (hN n' hn'))] at h2
        cases h1
        exact absurd rfl (h.old_id h2)
    · by_cases e2 : n' = s
      · rw [e2, has] at h2
        rw [hag n e1 (Ne.symm (hN n hn))] at h1
        cases h2
        exact absurd rfl (h.old_id h1)
      · rw [hag n e1 (Ne.symm (hN n hn))] at h1
        rw [hag n' e2 (Ne.symm (hN n' hn'))] at h2; exact h.st.apart n hn n' hn' i h1 h2
  · by_cases e1 : n = s
    · subst e1; exact .inl hs
    · by_cases e2 : n = zCc s
      · subst e2; exact .inr (List.mem_map_of_mem hs)
      · refine h.st.keys n ?_
        obtain ⟨v, hv⟩ := zE hn; rw [hag n e1 e2] at hv; exact zEn hv
  · rw [m.fs] at hF
    by_cases e1 : i = d.files + 1
    · subst e1; rw [zC h.ok.fresh] at hF; cases hF; show (zBt b).length ≤ B; rw [zC1]; exact hb
    · rw [zDj h.ok.fresh e1] at hF; exact h.st.len i F hF
theorem Mid.raw (h : RawI N B f d) (hs : s ∈ N) (hN : ∀ n ∈ N, zCc s ≠ n) (hb : b.length + 4 ≤ B) (he : e.ok) (m : Mid d s b e) (picks : List Int) : RawI N B f (e.crash picks) ∨ RawI N B (zDq f s (zBt b)) (e.crash picks) := by
  have hn0 : Near d.names s (zCc s) (zB5 e.fs (d.files + 1) = some ⟨d.files + 1, zBt b, (zBt b).length⟩) (d.files + 1) e.kept := by
    rw [m.kept, ← h.st.kept]; exact ⟨h.ok.nnd, fun n _ _ => rfl, .inl rfl⟩
  have hn := hn0.all (newN_ne s) (newN_some s) (cs := e.changes.take (pickN picks 0 e.changes.length)) fun c hc => (m.chs c (List.mem_of_mem_take hc)).resolve_left (fun h1 => by rw [h.st.still] at h1; simp at h1)
  have hkeys : ∀ n ∈ zAl (e.crash picks).names, n ∈ N ∨ n ∈ N.map zCc := fun n hk => by
    by_cases e1 : n = s
    · subst e1; exact .inl hs
    · by_cases e2 : n = zCc s
      · subst e2; exact .inr (List.mem_map_of_mem hs)
      · refine h.st.keys n ?_
        obtain ⟨v, hv⟩ := zE hk; have hv : zB5 (zCr e.kept (e.changes.take (pickN picks 0 e.changes.length))) n = some v := hv; rw [hn.other n e1 e2] at hv; exact zEn hv
  have hlen := crash_len he (B := B) (fun i F hF => by
    rcases m.len i F hF with h1 | h1
    · exact h.st.len i F h1
    · omega) picks
  have hoth : ∀ n ∈ N, n ≠ s → zB5 (e.crash picks).names n = zB5 d.names n := fun n hnN hne => hn.other n hne (Ne.symm (hN n hnN))
  have hold : ∀ n ∈ N, zB5 (e.crash picks).names n = zB5 d.names n → Raw (e.crash picks) n (f n) := fun n hnN h2 => (h.st.under n hnN).same h2 fun i F _ hF hw => zCs hw _ _ _ (m.old i F hF)
  rcases hn.at_s with h1 | ⟨h1, h2⟩
  · have hall : ∀ n ∈ N, zB5 (e.crash picks).names n = zB5 d.names n := fun n hnN => by
      by_cases e1 : n = s
      · subst e1; exact h1
      · exact hoth n hnN e1
    exact .inl ⟨he.crash picks, rfl, rfl, rfl, fun n hnN => hold n hnN (hall n hnN), fun n hnN n' hn' i g1 g2 => h.st.apart n hnN n' hn' i (hall n hnN ▸ g1) (hall n' hn' ▸ g2), hkeys, hlen⟩
  · have has : zB5 (e.crash picks).names s = some (d.files + 1) := h1
    refine .inr ⟨he.crash picks, rfl, rfl, rfl, fun n hnN => ?_, fun n hnN n' hn' i g1 g2 => ?_, hkeys, hlen⟩
    · unfold zDq
      by_cases e1 : n = s
      · subst e1; rw [if_pos rfl]; exact ⟨_, _, has, zCs rfl _ _ _ h2⟩
      · rw [if_neg e1]; exact hold n hnN (hoth n hnN e1)
    · by_cases e1 : n = s
      · by_cases e2 : n' = s
        · rw [e1, e2]
        · rw [e1, has] at g1
          rw [hoth n' hn' e2] at g2
          cases g1
          exact absurd rfl (h.old_id g2)
      · by_cases e2 : n' = s
        · rw [e2, has] at g2
          rw [hoth n hnN e1] at g1
          cases g2
          exact absurd rfl (h.old_id g1)
        · rw [hoth n hnN e1] at g1
          rw [hoth n' hn' e2] at g2; exact h.st.apart n hnN n' hn' i g1 g2
/-- A Write, whatever the power does. -/
theorem RawI.write (h : RawI N B f d) (hs : s ∈ N) (hN : ∀ n ∈ N, zCc s ≠ n) (hv : zCa s.data.toList = true) (hv2 : zCa (zCc s).data.toList = true) (hb : b.length + 4 ≤ B) (hr : 2 * N.length * B + B ≤ d.room) :
    ∃ k e, d.write s b = (k, e) ∧ e.room = d.room ∧ e.calls ≤ d.calls + 6 ∧ (k = 0 ∧ e.down = false ∧ (d.armed = 0 → e.armed = 0) ∧ (e.ok → RawI N B (zDq f s (zBt b)) e) ∨ k = 110 ∧ e.down = true ∧ d.armed ≠ 0 ∧ (e.ok → ∀ picks, RawI N B f (e.crash picks) ∨ RawI N B (zDq f s (zBt b)) (e.crash picks))) := by
  have h1 := h.roomW s; obtain ⟨k, e, hk, hd⟩ := UpD.write ⟨h.ok, h.up⟩ (b := b) hv hv2 (by omega)
  rcases hd with ⟨h1, m⟩ | ⟨h1, h2, h3, m⟩
  · exact ⟨k, e, hk, m.room, Dk.write_calls hk, .inl ⟨h1, m.up, m.arm, fun he => m.raw h hs hN hb he⟩⟩
  · exact ⟨k, e, hk, m.room, Dk.write_calls hk, .inr ⟨h1, h2, h3, fun he picks => m.raw h hs hN hb he picks⟩⟩
theorem Dk.find_arm {i : Nat} (hu : d.down = false) (hn : zB5 d.names n = some i) : d.find n = if d.armed = 1 then (110, none, { d with armed := 0, down := true }) else (0, some i, { d with armed := d.armed - 1 }) := by
  obtain ⟨room, names, kept, changes, files, a, down, calls, fs⟩ := d; simp only at hu hn; subst hu
  by_cases h0 : a = 0
  · subst h0; simp [Dk.find, Dk.begin, Dk.file, hn]
  · by_cases h1 : a = 1
    · subst h1; simp [Dk.find, Dk.begin]
    · simp [Dk.find, Dk.begin, Dk.file, hn, h0, h1]
theorem RawS.set (h : RawS N B f d) (hs : s ∈ N) {i q : Nat} (hi : zB5 d.names s = some i) (h1 : e.names = d.names) (h2 : e.kept = d.kept) (h3 : e.changes = d.changes) (h4 : ∀ j, j ≠ i → zB5 e.fs j = zB5 d.fs j) (hF : zB5 e.fs i = some ⟨q, v, v.length⟩) (hB : v.length ≤ B) : RawS N B (zDq f s v) e := by
  refine ⟨by rw [h1, h2]; exact h.kept, by rw [h3]; exact h.still, fun n hn => ?_, by rw [h1]; exact h.apart, by rw [h1]; exact h.keys, fun a F hF' => ?_⟩
  · unfold zDq
    by_cases e1 : n = s
    · subst e1; rw [if_pos rfl]; exact ⟨i, q, by rw [h1]; exact hi, hF⟩
    · rw [if_neg e1]
      exact (h.under n hn).same (by rw [h1]) fun a F ha hF' hw => by rw [h4 a fun ea => e1 (h.apart n hn s hs a ha (ea ▸ hi))]; exact hF'
  · by_cases ea : a = i
    · subst ea; rw [hF] at hF'; cases hF'; exact hB
    · rw [h4 a ea] at hF'; exact h.len a F hF'
/-- Bytes laid behind, and synced; whatever the power does. -/
theorem RawI.grow (h : RawI N B f d) (hs : s ∈ N) (hf : f s = some v) (hb : v.length + x.length ≤ B) (hr : 2 * N.length * B + B ≤ d.room) :
    ∃ k e, d.append s x = (k, e) ∧ e.room = d.room ∧ e.calls ≤ d.calls + 1 ∧ (k = 110 ∧ e.down = true ∧ d.armed ≠ 0 ∧ (e.ok → ∀ picks, RawI N B f (e.crash picks)) ∨
      k = 0 ∧ e.down = false ∧ ∃ k2 e2, e.sync s = (k2, e2) ∧ e2.room = d.room ∧ e2.calls ≤ d.calls + 2 ∧ (k2 = 0 ∧ e2.down = false ∧ (d.armed = 0 → e2.armed = 0) ∧ (e2.ok → RawI N B (zDq f s (v ++ x)) e2) ∨ k2 = 110 ∧ e2.down = true ∧ d.armed ≠ 0 ∧ (e2.ok → ∀ picks, ∃ j, RawI N B (zDq f s (v ++ x.take j)) (e2.crash picks)))) := by
  have hu := h.st.under s hs; rw [hf] at hu; obtain ⟨i, q, hi, hF⟩ := hu; have hus := h.used
  have hap : d.append s x = if d.armed = 1 then (110, { d with armed := 0, down := true }) else (0, { (({ d with armed := d.armed - 1 } : Dk).setF i ⟨q, v ++ x, v.length⟩) with calls := d.calls + 1 }) := by
    unfold Dk.append
    rw [Dk.find_arm h.up hi]
    by_cases h1 : d.armed = 1
    · simp [h1]
    · rw [if_neg h1, if_neg h1]
      have hfl : ({ d with armed := d.armed - 1 } : Dk).fl i = ⟨q, v, v.length⟩ := by simp [Dk.fl, hF]
      have h2 : ({ d with armed := d.armed - 1 } : Dk).used = d.used := rfl; simp only [hfl, h2]; rw [if_neg (by omega)]
  by_cases h1 : d.armed = 1
  · rw [if_pos h1] at hap
    exact ⟨_, _, hap, rfl, Nat.le_succ _, .inl ⟨rfl, rfl, by omega, fun ho picks => RawS.crash (d := { d with armed := 0, down := true }) (h.st.same rfl rfl rfl rfl) ho picks⟩⟩
  · rw [if_neg h1] at hap
    refine ⟨_, _, hap, rfl, Nat.le_refl _, .inr ⟨rfl, h.up, ?_⟩⟩; obtain ⟨e, he⟩ : ∃ e, e = ({ (({ d with armed := d.armed - 1 } : Dk).setF i ⟨q, v ++ x, v.length⟩) with calls := d.calls + 1 } : Dk) := ⟨_, rfl⟩; rw [← he]
    have n1 : e.names = d.names := by rw [he]; rfl
    have n2 : e.kept = d.kept := by rw [he]; rfl
    have n3 : e.changes = d.changes := by rw [he]; rfl
    have n4 : e.fs = zCd d.fs i ⟨q, v ++ x, v.length⟩ := by rw [he]; rfl
    have n5 : e.armed = d.armed - 1 := by rw [he]; rfl
    have n6 : e.down = false := by rw [he]; exact h.up
    have n7 : e.room = d.room := by rw [he]; rfl
    have n8 : e.calls = d.calls + 1 := by rw [he]
    have hsy : e.sync s = if e.armed = 1 then (110, { e with armed := 0, down := true }) else (0, { (({ e with armed := e.armed - 1 } : Dk).setF i ⟨q, v ++ x, (v ++ x).length⟩) with calls := e.calls + 1 }) := by
      unfold Dk.sync
      rw [Dk.find_arm n6 (by rw [n1]; exact hi)]
      by_cases h1 : e.armed = 1
      · simp [h1]
      · rw [if_neg h1, if_neg h1]
        have hfl : ({ e with armed := e.armed - 1 } : Dk).fl i = ⟨q, v ++ x, v.length⟩ := by simp [Dk.fl, n4, zB9]
        simp only [hfl]
    have ho1 : ∀ j, j ≠ i → zB5 e.fs j = zB5 d.fs j := fun j hj => by rw [n4]; exact zB1 _ _ hj
    by_cases h2 : e.armed = 1
    · rw [if_pos h2] at hsy
      exact ⟨_, _, hsy, n7, by show e.calls ≤ _; omega, .inr ⟨rfl, rfl, by omega, fun ho picks => h.st.part hs hi ho n1 n2 n3 ho1 (by show zB5 e.fs i = _; rw [n4, zB9]) hb picks⟩⟩
    · rw [if_neg h2] at hsy
      refine ⟨_, _, hsy, n7, by show e.calls + 1 ≤ _; omega, .inl ⟨rfl, n6, fun ha => by show e.armed - 1 = 0; omega, fun ho => ⟨ho, n6, h.st.set (q := q) hs hi n1 n2 n3 (fun j hj => ?_) ?_ (by simpa using hb)⟩⟩⟩
      · show zB5 (zCd e.fs i _) j = _
        rw [zB1 _ _ hj, ho1 j hj]
      · show zB5 (zCd e.fs i _) i = _
        rw [zB9]
/-- A cut, whatever the power does. -/
theorem RawI.cut (h : RawI N B f d) (hs : s ∈ N) (hf : f s = some v) {m : Nat} (hm : m ≤ v.length) :
    ∃ k e, d.cut s m = (k, e) ∧ e.room = d.room ∧ e.calls ≤ d.calls + 1 ∧ (k = 0 ∧ e.down = false ∧ (d.armed = 0 → e.armed = 0) ∧ (e.ok → RawI N B (zDq f s (v.take m)) e) ∨ k = 110 ∧ e.down = true ∧ d.armed ≠ 0 ∧ (e.ok → ∀ picks, RawI N B f (e.crash picks))) := by
  have hu := h.st.under s hs; rw [hf] at hu; obtain ⟨i, q, hi, hF⟩ := hu; have hB := h.st.len i _ hF
  have hap : d.cut s m = if d.armed = 1 then (110, { d with armed := 0, down := true }) else (0, { (({ d with armed := d.armed - 1 } : Dk).setF i ⟨q, v.take m, m⟩) with calls := d.calls + 1 }) := by
    unfold Dk.cut
    rw [Dk.find_arm h.up hi]
    by_cases h1 : d.armed = 1
    · simp [h1]
    · rw [if_neg h1, if_neg h1]
      have hfl : ({ d with armed := d.armed - 1 } : Dk).fl i = ⟨q, v, v.length⟩ := by simp [Dk.fl, hF]
      simp only [hfl]; rw [if_neg (by omega)]
      simp
  by_cases h1 : d.armed = 1
  · rw [if_pos h1] at hap
    exact ⟨_, _, hap, rfl, Nat.le_succ _, .inr ⟨rfl, rfl, by omega, fun ho picks => RawS.crash (d := { d with armed := 0, down := true }) (h.st.same rfl rfl rfl rfl) ho picks⟩⟩
  · rw [if_neg h1] at hap
    have hl : (v.take m).length = m := by rw [List.length_take]; omega
    refine ⟨_, _, hap, rfl, Nat.le_refl _, .inl ⟨rfl, h.up, fun ha => by show d.armed - 1 = 0; omega, fun ho => ⟨ho, h.up, h.st.set (q := q) hs hi rfl rfl rfl (fun j hj => ?_) ?_ (by simp only at hB; omega)⟩⟩⟩
    · show zB5 (zCd d.fs i _) j = _
      exact zB1 _ _ hj
    · show zB5 (zCd d.fs i _) i = _
      rw [zB9, hl]
theorem RawI.sync (h : RawI N B f d) (ha : d.armed = 0) (hs : s ∈ N) (hf : f s = some v) : ∃ e, d.sync s = (0, e) ∧ e.room = d.room ∧ e.armed = 0 ∧ e.calls ≤ d.calls + 1 ∧ (e.ok → RawI N B f e) := by
  have hu := h.st.under s hs; rw [hf] at hu; obtain ⟨i, q, hi, hF⟩ := hu
  have hfl : d.fl i = ⟨q, v, v.length⟩ := by simp [Dk.fl, hF]
  have hsy := Dk.sync_up (n := s) h.up ha hi; rw [hfl] at hsy; have hB := h.st.len i _ hF; refine ⟨_, hsy, rfl, ha, Nat.le_refl _, fun ho => ⟨ho, h.up, ?_⟩⟩
  have hff : zDq f s v = f := by funext n; unfold zDq; split; rename_i e1; rw [e1, hf]; rfl
  rw [← hff]; refine h.st.set (q := q) hs hi rfl rfl rfl (fun j hj => ?_) ?_ hB
  · show zB5 (zCd d.fs i _) j = _
    exact zB1 _ _ hj
  · show zB5 (zCd d.fs i _) i = _
    rw [zB9]
/-- A new file, its name synced. -/
theorem RawI.make (h : RawI N B f d) (ha : d.armed = 0) (hs : s ∈ N) (hf : f s = none) (hv : zCa s.data.toList = true) : ∃ e e2, d.create s = (0, e) ∧ e.syncDir = (0, e2) ∧ e2.room = d.room ∧ e2.armed = 0 ∧ e.calls ≤ d.calls + 1 ∧ e2.calls ≤ d.calls + 2 ∧ (e2.ok → RawI N B (zDq f s []) e2) := by
  have hu : zB5 d.names s = none := by have := h.st.under s hs; rw [hf] at this; exact this
  have hcr := Dk.create_up (n := s) h.up ha hv hu; have hnk : s ∉ zAl d.names := (zBe _ _).1 hu; refine ⟨_, _, hcr, Dk.syncDir_up h.up ha, rfl, ha, Nat.le_refl _, Nat.le_refl _, fun ho => ⟨ho, h.up, rfl, rfl, fun n hn => ?_, fun n hn n' hn' i h1 h2 => ?_, fun n hn => ?_, fun i F hF => ?_⟩⟩
  · have hag : n ≠ s → zB5 (zCd d.names s (d.files + 1)) n = zB5 d.names n := fun e1 => zB1 _ _ e1
    unfold zDq
    by_cases e1 : n = s
    · subst e1; rw [if_pos rfl]; exact ⟨d.files + 1, d.files + 1, zB9 _ _ _, zC h.ok.fresh⟩
    · rw [if_neg e1]
      exact (h.st.under n hn).same (hag e1) fun i F hi hF _ => (zDj h.ok.fresh (h.old_id hi)).trans hF
  · have h1 : zB5 (zCd d.names s (d.files + 1)) n = some i := h1
    have h2 : zB5 (zCd d.names s (d.files + 1)) n' = some i := h2
    by_cases e1 : n = s
    · by_cases e2 : n' = s
      · rw [e1, e2]
      · rw [e1, zB9] at h1
        rw [zB1 _ _ e2] at h2
        cases h1
        exact absurd rfl (h.old_id h2)
    · by_cases e2 : n' = s
      · rw [e2, zB9] at h2
        rw [zB1 _ _ e1] at h1
        cases h2
        exact absurd rfl (h.old_id h1)
      · rw [zB1 _ _ e1] at h1
        rw [zB1 _ _ e2] at h2; exact h.st.apart n hn n' hn' i h1 h2
  · have hn : n ∈ zAl (zCd d.names s (d.files + 1)) := hn
    by_cases e1 : n = s
    · subst e1; exact .inl hs
    · obtain ⟨v, hv⟩ := zE hn
      rw [zB1 _ _ e1] at hv; exact h.st.keys n (zEn hv)
  · have hF : zB5 (d.fs ++ [(d.files + 1, (⟨d.files + 1, [], 0⟩ : Fl))]) i = some F := hF
    by_cases e1 : i = d.files + 1
    · subst e1; rw [zC h.ok.fresh] at hF; cases hF; exact Nat.zero_le _
    · rw [zDj h.ok.fresh e1] at hF; exact h.st.len i F hF
theorem RawI.lenR (h : RawI N B f d) (hs : s ∈ N) : d.lenR s = (f s).elim (107, 0) fun v => (0, v.length) := by
  have hu := h.st.under s hs
  cases hf : f s with
  | none =>
    rw [hf] at hu; have h1 : zB5 d.names s = none := hu
    simp [Dk.lenR, Dk.file, h.up, h1]
  | some v =>
    rw [hf] at hu; obtain ⟨i, q, k1, k2⟩ := hu
    simp [Dk.lenR, Dk.file, h.up, k1, Dk.fl, k2]
theorem RawI.readR (h : RawI N B f d) (hs : s ∈ N) (hf : f s = some v) : d.readR s 0 (v.length : Int) = (0, v) := by
  have hu := h.st.under s hs; rw [hf] at hu; obtain ⟨i, q, k1, k2⟩ := hu; exact (Dk.readR_at (o := 0) (m := v.length) h.up k1 k2 (by show 0 + v.length ≤ v.length; omega)).trans (by simp)
theorem RawI.pread_none (h : RawI N B f d) (hs : s ∈ N) (hf : f s = none) : d.pread s = (107, []) := by
  have h1 := h.lenR hs; rw [hf] at h1
  simp [Dk.pread, h1]
theorem RawI.pread_some (h : RawI N B f d) (hs : s ∈ N) (hf : f s = some (zBt v)) : d.pread s = (0, v) := by
  have h1 := h.lenR hs; rw [hf] at h1; have h1 : d.lenR s = (0, (zBt v).length) := h1; have h2 := h.readR hs hf; simp only [Dk.pread, h1, h2, open_seal]
  simp
theorem RawI.start {r : Nat} (hr : r ≤ 4194304) : RawI N B (fun _ => none) (Dk.empty r) :=
  ⟨Dk.empty_ok hr, rfl, rfl, rfl, fun n _ => rfl, fun n _ m _ i h => by simp [Dk.empty, zB5] at h, fun n hn => by simp [Dk.empty, zAl] at hn, fun i F hF => by cases hF⟩
theorem RawI.arm (h : RawI N B f d) {n : Nat} (hok : ({ d with armed := n } : Dk).ok) : RawI N B f { d with armed := n } := ⟨hok, h.up, h.st.same rfl rfl rfl rfl⟩
theorem zBu (f : ByteArray → Option (List UInt8)) (s : ByteArray) (v : List UInt8) : zDq f s v s = some v := by simp [zDq]
theorem zDc (f : ByteArray → Option (List UInt8)) {s n : ByteArray} (v : List UInt8) (h : n ≠ s) : zDq f s v n = f n := by simp [zDq, h]
end Go.Proofs.YtdkgdjnbpjjfmaaGreatDoor
namespace Go.Proofs.YtdkgdjnbpjjfmaaGreatDoor
set_option linter.all false
open Go.RowKit
attribute [local irreducible] zAq
variable {g w : World} {L M : List HP} {ad : Nat → Addr} {p : Nat} {d : Dk}

section
variable {P : Program} {n : Nat} {ops : Array Oper} {rest : List Oper} {K : Env → World → Prop} {ρ : Env} {dst : Option Tmp} {ty : TypeId} {pos : String} {aft : Array Edge}
/-- Two texts, one behind the other. -/
theorem run_makeFuncB {fn : Fn} {fl cl : List Operand} : (execOp (ev ρ) ⟨dst, .makeFunc fn fl.toArray cl.toArray, ty, pos, aft, none⟩).run P w = .ok (.value (.func fn (fl.map (ev ρ)).toArray (cl.map (ev ρ)).toArray)) w := by
  simp [execOp, Instr.makeFunc]
/-- A method's value is called. -/
theorem lw_callvB (hd : okd n dst = true) {f : FuncId} {first : Array Value} {t : Tmp} {ats : Array TypeId} {R : Value → World → Prop} (hf : ∀ args w, (callFunc f args).run P w = .ok (.enter f args) w) (hx : ρ t = .func (.func f) first #[])
    (hc : Calls P f first w (Ret R)) (h : ∀ v w', R v w' → lw P n ops rest K (updo ρ dst v) w') :
    lw P n ops (⟨dst, .call { callee := .value (.tmp t), args := #[], argTypes := ats }, ty, pos, aft, none⟩ :: rest) K ρ w := by
  refine lw_enter hd ?_ hc h; simp only [execOp, resolve, ev, hx, Deferred.ofValue, Sem.run_bind, Sem.run_pure, Result.andThen_ok, invoke]
  simp [hf]
end

section
variable {b3 b7 b5 b4 : Nat} {t s : ByteArray}
theorem w1_sl (hE : ErrK ad g) (hcl : d.calls < 1000000) (hs : Mem g w (zBz p d :: cells b3 [.pointer (some ⟨p, 0, none⟩)] 25 :: cells b7 [.string (zCc s)] 9 :: M)) {b : List UInt8} {k : Nat} {d2 : Dk} (hk : d.wstep s b 0 = (k, d2)) :
    Calls Tryz.prog 90 #[.pointer (some ⟨b3, 0, none⟩), .pointer (some ⟨b7, 0, none⟩)] w (Ret fun v w' => v = zAq ad k ∧ Mem g w' (zBz p d2 :: cells b3 [.pointer (some ⟨p, 0, none⟩)] 25 :: cells b7 [.string (zCc s)] 9 :: M)) := by
  obtain ⟨kl, ml, hl⟩ : ∃ kl ml, d.lenR (zCc s) = (kl, ml) := ⟨_, _, rfl⟩; have hcode := d.lenR_code (zCc s); rw [hl] at hcode; simp only at hcode; simp only [Dk.wstep, hl] at hk; refine zAo Tryz.func90 rfl rfl ?_
  skip
  refine zA6 (zA1 ?_); refine zA rfl (zA2 (v := .nilIface) rfl) ?_; refine zA4 ?_; refine zA6 ?_; refine zA6 (zA1 ?_); refine zA rfl (zA8 uz25 rfl rfl (hs.cellAt 1 rfl rfl)) ?_; refine zA rfl (zA8 uz9 rfl rfl (hs.cellAt 2 rfl rfl)) ?_; refine zAb rfl en15 (len_sl hE hs (zCc s) hl) ?_; clear hs; rintro _ w ⟨rfl, hs⟩; refine zA rfl (zA0 (v := .tuple _) rfl) ?_; refine zA rfl (zAa (v := .int .i64 _) rfl rfl) ?_; refine zA rfl (zAa (v := zAq ad _) rfl rfl) ?_; refine zA rfl (zA2 (v := .int .i64 _) rfl) ?_; refine zA rfl (zA2 (v := zAq ad _) rfl) ?_; refine zA4 (zA6 (zA1 ?_)); refine zA rfl (zA0 (v := zAq ad _) rfl) ?_; refine zA rfl (zA8 zCq rfl rfl (hE.cellW hs 107 (by decide) rfl)) ?_
  refine zA rfl (zEk (hE.atW hs) (by rcases hcode with h | h | h <;> (rw [h]; decide)) (by decide) rfl rfl) ?_; refine zA4 ?_; refine zB8 rfl ?_ ?_
  ·
   intro h13; have g13 := of_decide_eq_true h13; rw [if_pos (of_decide_eq_true h13)] at hk
   cases hk
   refine zA6 (zA1 ?_); refine zA rfl (zA2 (v := .nilIface) rfl) ?_; refine zA4 ?_; refine zAg ?_; refine zBl (v := .nilIface) rfl rfl ?_; exact ⟨_, rfl, (zB6 ad).symm, hs⟩
  ·
   intro h13; have g13 := of_decide_eq_false h13; rw [if_neg (of_decide_eq_false h13)] at hk; refine zAf ?_; refine zA6 (zA1 ?_); refine zA rfl (zA8 uz25 rfl rfl (hs.cellAt 1 rfl rfl)) ?_; refine zA rfl (zA8 uz9 rfl rfl (hs.cellAt 2 rfl rfl)) ?_; refine zAb rfl en91 (remove_sl hE hs hcl (zCc s) hk) ?_; clear hs; rintro _ w ⟨rfl, hs⟩; refine zA rfl (zA2 (v := zAq ad _) rfl) ?_; refine zA4 ?_; refine zAg ?_; refine zBl (v := zAq ad _) rfl rfl ?_; exact ⟨_, rfl, rfl, hs⟩
theorem w2_sl (hE : ErrK ad g) (hcl : d.calls < 1000000) (hs : Mem g w (zBz p d :: cells b3 [.pointer (some ⟨p, 0, none⟩)] 25 :: cells b7 [.string (zCc s)] 9 :: M)) {b : List UInt8} {k : Nat} {d2 : Dk} (hk : d.wstep s b 1 = (k, d2)) :
    Calls Tryz.prog 92 #[.pointer (some ⟨b3, 0, none⟩), .pointer (some ⟨b7, 0, none⟩)] w (Ret fun v w' => v = zAq ad k ∧ Mem g w' (zBz p d2 :: cells b3 [.pointer (some ⟨p, 0, none⟩)] 25 :: cells b7 [.string (zCc s)] 9 :: M)) := by
  refine zAo Tryz.func92 rfl rfl ?_
  skip
  refine zA6 (zA1 ?_); refine zA rfl (zA2 (v := .nilIface) rfl) ?_; refine zA4 (zA6 (zA1 ?_)); refine zA rfl (zA8 uz25 rfl rfl (hs.cellAt 1 rfl rfl)) ?_; refine zA rfl (zA8 uz9 rfl rfl (hs.cellAt 2 rfl rfl)) ?_; refine zAb rfl en34 (create_sl hE hs hcl (zCc s) hk) ?_; clear hs; rintro _ w ⟨rfl, hs⟩; refine zA rfl (zA2 (v := zAq ad _) rfl) ?_; refine zA4 ?_; refine zAg ?_; refine zBl (v := zAq ad _) rfl rfl ?_; exact ⟨_, rfl, rfl, hs⟩
theorem w3_sl (hE : ErrK ad g) (hcl : d.calls < 1000000) {a : Option Addr} {n c : Nat} (hs : Mem g w (zBz p d :: cells b3 [.pointer (some ⟨p, 0, none⟩)] 25 :: cells b7 [.string (zCc s)] 9 :: cells b5 [.slice a n c] 23 :: M)) {b : List UInt8} (hr : Rd g M (.slice a n c) (zAm b)) (hn : n = b.length) (hlen : b.length ≤ 1000000) {k : Nat} {d2 : Dk} (hk : d.wstep s b 2 = (k, d2)) :
    Calls Tryz.prog 93 #[.pointer (some ⟨b3, 0, none⟩), .pointer (some ⟨b7, 0, none⟩), .pointer (some ⟨b5, 0, none⟩)] w (Ret fun v w' => v = zAq ad k ∧ Mem g w' (zBz p d2 :: cells b3 [.pointer (some ⟨p, 0, none⟩)] 25 :: cells b7 [.string (zCc s)] 9 :: cells b5 [.slice a n c] 23 :: M)) := by
  refine zAo Tryz.func93 rfl rfl ?_
  skip
  refine zA6 (zA1 ?_); refine zA rfl (zA2 (v := .nilIface) rfl) ?_; refine zA4 ?_; refine zA6 ?_; refine zAy zBv hs.tail ?_; intro w tr hK; replace hs := tr _ hs; clear tr; refine zA5 0 rfl rfl (fun w hs => zA8 uz25 rfl rfl (hs.cellAt 0 rfl rfl)) hK ?_; refine zA5 1 rfl rfl (fun w hs => zA8 uz9 rfl rfl (hs.cellAt 1 rfl rfl)) hK ?_; refine zA5 2 rfl rfl (fun w hs => zA8 zC0 rfl rfl (hs.cellAt 2 rfl rfl)) hK ?_; refine zA9 [3] ?_; refine ⟨⟨_, rfl, ?_⟩, trivial⟩; refine zAb rfl en82 (seal_sl hs ((((hr.cons).cons).cons).cons) hn (by omega)) ?_; clear hs; rintro _ w ⟨a7, c7, rfl, hs⟩; clear hK; have hK := hs.tail.tail; refine zA4 ⟨hK, ?_⟩; refine zA9 [4] ?_; refine ⟨⟨_, rfl, ?_⟩, trivial⟩
  refine zAb rfl en19 (append_sl (d := d) (L := own _ _ :: _) hE (hs.arr [1, 0] 2 (by decide)) hcl (zCc s) (x := zBt b) (Rd.own 0 rfl) rfl (by rw [zC1]; omega) hk) ?_; clear hs; rintro _ w ⟨rfl, hs⟩; clear hK; have hK := hs.tail.tail; refine zA4 ⟨hK, ?_⟩; refine zA5 5 rfl rfl (fun w hs => zA2 (v := zAq ad _) rfl) hK ?_; refine zAp (by kernel_rfl) ?_; clear hK; refine zAg ?_; refine zBl (v := zAq ad _) rfl rfl ?_; exact ⟨_, rfl, rfl, hs.drop 1⟩
theorem w4_sl (hE : ErrK ad g) (hcl : d.calls < 1000000) (hs : Mem g w (zBz p d :: cells b3 [.pointer (some ⟨p, 0, none⟩)] 25 :: cells b7 [.string (zCc s)] 9 :: M)) {b : List UInt8} {k : Nat} {d2 : Dk} (hk : d.wstep s b 3 = (k, d2)) :
    Calls Tryz.prog 94 #[.pointer (some ⟨b3, 0, none⟩), .pointer (some ⟨b7, 0, none⟩)] w (Ret fun v w' => v = zAq ad k ∧ Mem g w' (zBz p d2 :: cells b3 [.pointer (some ⟨p, 0, none⟩)] 25 :: cells b7 [.string (zCc s)] 9 :: M)) := by
  refine zAo Tryz.func94 rfl rfl ?_
  skip
  refine zA6 (zA1 ?_); refine zA rfl (zA2 (v := .nilIface) rfl) ?_; refine zA4 (zA6 (zA1 ?_)); refine zA rfl (zA8 uz25 rfl rfl (hs.cellAt 1 rfl rfl)) ?_; refine zA rfl (zA8 uz9 rfl rfl (hs.cellAt 2 rfl rfl)) ?_; refine zAb rfl en39 (zFs hE hs hcl (zCc s) hk) ?_; clear hs; rintro _ w ⟨rfl, hs⟩; refine zA rfl (zA2 (v := zAq ad _) rfl) ?_; refine zA4 ?_; refine zAg ?_; refine zBl (v := zAq ad _) rfl rfl ?_; exact ⟨_, rfl, rfl, hs⟩
theorem w5_sl (hE : ErrK ad g) (hcl : d.calls < 1000000) (hs : Mem g w (zBz p d :: cells b3 [.pointer (some ⟨p, 0, none⟩)] 25 :: cells b7 [.string (zCc s)] 9 :: cells b4 [.string s] 9 :: M)) {b : List UInt8} {k : Nat} {d2 : Dk} (hk : d.wstep s b 4 = (k, d2)) :
    Calls Tryz.prog 95 #[.pointer (some ⟨b3, 0, none⟩), .pointer (some ⟨b7, 0, none⟩), .pointer (some ⟨b4, 0, none⟩)] w (Ret fun v w' => v = zAq ad k ∧ Mem g w' (zBz p d2 :: cells b3 [.pointer (some ⟨p, 0, none⟩)] 25 :: cells b7 [.string (zCc s)] 9 :: cells b4 [.string s] 9 :: M)) := by
  refine zAo Tryz.func95 rfl rfl ?_
  skip
  refine zA6 (zA1 ?_); refine zA rfl (zA2 (v := .nilIface) rfl) ?_; refine zA4 (zA6 (zA1 ?_)); refine zA rfl (zA8 uz25 rfl rfl (hs.cellAt 1 rfl rfl)) ?_; refine zA rfl (zA8 uz9 rfl rfl (hs.cellAt 2 rfl rfl)) ?_; refine zA rfl (zA8 uz9 rfl rfl (hs.cellAt 3 rfl rfl)) ?_; refine zAb rfl en96 (rename_sl hE hs hcl (zCc s) s hk) ?_; clear hs; rintro _ w ⟨rfl, hs⟩; refine zA rfl (zA2 (v := zAq ad _) rfl) ?_; refine zA4 ?_; refine zAg ?_; refine zBl (v := zAq ad _) rfl rfl ?_; exact ⟨_, rfl, rfl, hs⟩
end
theorem readR_len {n : ByteArray} {m : Nat} {c : Nat} {l : List UInt8} (h : d.readR n 0 (m : Int) = (c, l)) (hm : m ≤ 4194304) : l.length ≤ 4194304 := by
  unfold Dk.readR at h
  split at h
  · split at h
    · cases h; simp
    · cases h; simp; omega
  · cases h; simp
def stepsL (p b3 b7 b5 b4 : Nat) : List Value := [.func (.func 90) #[] #[.pointer (some ⟨b3, 0, none⟩), .pointer (some ⟨b7, 0, none⟩)], .func (.func 92) #[] #[.pointer (some ⟨b3, 0, none⟩), .pointer (some ⟨b7, 0, none⟩)], .func (.func 93) #[] #[.pointer (some ⟨b3, 0, none⟩), .pointer (some ⟨b7, 0, none⟩), .pointer (some ⟨b5, 0, none⟩)], .func (.func 94) #[] #[.pointer (some ⟨b3, 0, none⟩), .pointer (some ⟨b7, 0, none⟩)], .func (.func 95) #[] #[.pointer (some ⟨b3, 0, none⟩), .pointer (some ⟨b7, 0, none⟩), .pointer (some ⟨b4, 0, none⟩)], .func (.func 35) #[.pointer (some ⟨p, 0, none⟩)] #[]]
set_option maxRecDepth 100000 in
theorem write_sl (hE : ErrK ad g) (hcl : d.calls < 900000) (hs : Mem g w (zBz p d :: L)) (s : ByteArray) (hsl : s.size ≤ 1000000) {b : List UInt8} {a : Option Addr} {n c : Nat} (hr : Rd g L (.slice a n c) (zAm b)) (hn : n = b.length) (hlen : b.length ≤ 1000000) {k : Nat} {d2 : Dk} (hk : d.write s b = (k, d2)) :
    Calls Tryz.prog 51 #[.pointer (some ⟨p, 0, none⟩), .string s, .slice a n c] w (Ret fun v w' => v = zAq ad k ∧ Mem g w' (zBz p d2 :: L)) := by
  refine zAo Tryz.func51 rfl rfl ?_
  skip
  refine zA6 (zA1 ?_); refine zCj (v := .pointer (some _)) hs rfl rfl ?_; clear hs; intro b3 w hs
  try simp only [List.set_cons_succ, List.set_cons_zero] at hs
  refine zCj (v := .string _) hs rfl rfl ?_; clear hs; intro b4 w hs
  try simp only [List.set_cons_succ, List.set_cons_zero] at hs
  refine zCj (v := .slice _ _ _) hs rfl rfl ?_; clear hs; intro b5 w hs
  try simp only [List.set_cons_succ, List.set_cons_zero] at hs
  refine zA rfl (zA2 (v := .nilIface) rfl) ?_; refine zA4 (zA6 (zA1 ?_)); refine zA rfl (zA8 uz9 rfl rfl (hs.cellAt 1 rfl rfl)) ?_; refine zA rfl (zGd (a := s) (b := ⟨#[46, 110, 101, 119]⟩) rfl rfl (by show s.size + 4 ≤ _; omega)) ?_; refine zBd hs rfl ze9 ?_; clear hs; intro b7 w hs
  try simp only [List.set_cons_succ, List.set_cons_zero] at hs
  refine zAr (v := .string _) hs 0 rfl sz9 rfl rfl rfl rfl ?_; clear hs; intro w hs
  try simp only [List.set_cons_succ, List.set_cons_zero] at hs
  refine zA4 ?_; refine zA6 ?_; refine zA6 (zA1 ?_); refine zA rfl (zA8 uz9 rfl rfl (hs.cellAt 2 rfl rfl)) ?_; refine zAb rfl en74 (valid_sl hs s) ?_; clear hs; rintro _ w ⟨rfl, hs⟩; refine zA rfl (zC4 rfl) ?_; refine zA rfl (zA0 (v := .bool _) rfl) ?_; refine zBa (t := _) (d := 16) rfl ?_ ?_
  ·
   intro h14; replace h14 := zFu h14
   unfold Dk.write at hk
   rw [if_neg (fun e => by rw [h14] at e; cases e.1)] at hk
   cases hk
   refine zAc rfl rfl rfl (zCn h14) ?_; refine zAc rfl rfl rfl (zCn h14) ?_; refine zAc rfl rfl rfl (zCn h14) ?_; refine zA rfl (zAj (v := .bool _) rfl (zCn h14) rfl) ?_; refine zA4 ?_; refine zBb rfl rfl ?_; refine zA6 (zA1 ?_); refine zA rfl (zA8 zCq rfl rfl (hE.cellW hs 106 (by decide) rfl)) ?_; refine zA rfl (zA2 (v := zAq ad _) rfl) ?_; refine zA4 ?_; refine zAg ?_; refine zBl (v := zAq ad _) rfl rfl ?_; exact ⟨_, rfl, rfl, hs.suffix 4 rfl⟩
  ·
   intro h14; replace h14 := zEs h14; refine zAi rfl rfl (zC8 h14) ?_; refine zA rfl (zA8 uz9 rfl rfl (hs.cellAt 0 rfl rfl)) ?_; refine zAi rfl rfl (zC8 h14) ?_; refine zAb rfl en74 (valid_sl hs (zCc s)) ?_; clear hs; rintro _ w ⟨rfl, hs⟩; refine zAi rfl rfl (zC8 h14) ?_; refine zA rfl (zC4 rfl) ?_; refine zA rfl (zAk (v := .bool _) rfl (zC8 h14) rfl) ?_; refine zA4 ?_; refine zB8 rfl ?_ ?_
   ·
    intro h18; replace h18 := zFu h18
    unfold Dk.write at hk
    rw [if_neg (fun e => by rw [h18] at e; cases e.2)] at hk
    cases hk
    refine zA6 (zA1 ?_); refine zA rfl (zA8 zCq rfl rfl (hE.cellW hs 106 (by decide) rfl)) ?_; refine zA rfl (zA2 (v := zAq ad _) rfl) ?_; refine zA4 ?_; refine zAg ?_; refine zBl (v := zAq ad _) rfl rfl ?_; exact ⟨_, rfl, rfl, hs.suffix 4 rfl⟩
   ·
    intro h18; replace h18 := zEs h18
    unfold Dk.write at hk
    rw [if_pos ⟨h14, h18⟩] at hk; refine zAf ?_; refine zA6 ?_; refine zA6 (zA1 ?_); refine zA rfl (zE1) ?_; refine zA rfl (zE1) ?_; refine zA rfl (zE1) ?_; refine zA rfl (zE1) ?_; refine zA rfl (zE1) ?_; refine zA rfl (zA8 uz25 rfl rfl (hs.cellAt 3 rfl rfl)) ?_; refine zA rfl (run_makeFuncB (fl := [.tmp 27]) (cl := [])) ?_; refine zC7 hs rfl ((stepsL p b3 b7 b5 b4)) uz155 zs53 rfl (by simp [stepsL, Value.cells]) rfl rfl rfl ?_; clear hs; intro b29 w hs
    try simp only [List.set_cons_succ, List.set_cons_zero] at hs
    replace hs := hs.arr [5, 4, 1, 2, 3, 0] 6 (by decide); refine zA rfl (zB2 uz155 rfl) ?_; refine zA rfl (zA0 (v := .int .i64 _) rfl) ?_; refine zA4 ?_; refine zAw ?_; refine zBw (X := Nat × Dk) [6, 9, 10, 31, 32, 33, 34, 35, 36, 37, 38, 39, 40] (fun x => [(31, .int .i64 (x.1 : Nat))]) (fun x w => x.1 ≤ 6 ∧ x.2.calls ≤ d.calls + x.1 ∧ Dk.wrun s b (6 - x.1) x.1 x.2 = (k, d2) ∧ Mem g w (zBz p x.2 :: cells b3 [.pointer (some ⟨p, 0, none⟩)] 25 :: cells b7 [.string (zCc s)] 9 :: cells b5 [.slice a n c] 23 :: cells b4 [.string s] 9 :: cells b29 (stepsL p b3 b7 b5 b4) 53 :: L)) (fun x => 6 - x.1) ((0, d)) ?_ ?_ ?_
    · exact ⟨rfl, trivial⟩
    · exact ⟨Nat.zero_le _, Nat.le_refl _, hk, hs⟩
    clear hs; rintro x ξ w hI; obtain ⟨i, dk⟩ := x; obtain ⟨hi6, hcl2, hrun, hs⟩ := hI; simp only at hi6 hcl2 hrun hs
    show cw _ _ _ _ _ _ (updL (mix _ ξ _) [(31, .int .i64 (i : Nat))]) w
    refine zA6 (zA1 ?_); refine zA rfl (zB7 rfl rfl) ?_; refine zA4 ?_; refine zA6 ?_; refine zB8 rfl ?_ ?_
    ·
     intro h32; have g32 := of_decide_eq_true h32; obtain ⟨ks, ds, hst⟩ : ∃ ks ds, dk.wstep s b i = (ks, ds) := ⟨_, _, rfl⟩
     have hr2 : (if (dk.wstep s b i).1 = 0 then Dk.wrun s b (5 - i) (i + 1) (dk.wstep s b i).2 else dk.wstep s b i) = (k, d2) := by rw [← hrun, show 6 - i = (5 - i) + 1 by omega]; rfl
     rw [hst] at hr2; simp only at hr2
     have hcs : ds.calls ≤ dk.calls + 1 := by have := dk.wstep_calls s b i; rw [hst] at this; exact this
     refine zAf ?_; refine zA6 ?_; refine zAw ?_; refine zA6 ?_
     obtain rfl | rfl | rfl | rfl | rfl | rfl : i = 0 ∨ i = 1 ∨ i = 2 ∨ i = 3 ∨ i = 4 ∨ i = 5 := by omega
     ·
      refine zA1 ?_; refine zA rfl (zBk uz155 sz53 rfl rfl rfl (by omega) rfl) ?_; refine zA rfl (zA8 uz53 rfl rfl (hs.cellAt 5 rfl rfl)) ?_; refine zA rfl (zA2 (v := .func _ _ _) rfl) ?_; refine zA4 (zA6 (zA1 ?_)); refine zA rfl (zA0 (v := .func _ _ _) rfl) ?_; refine lw_callv0 rfl en90 rfl (w1_sl hE (by omega) hs hst) ?_; clear hs; rintro _ w ⟨rfl, hs⟩; refine zA rfl (zA2 (v := zAq ad _) rfl) ?_; refine zA4 (zA6 (zA1 ?_)); refine zA rfl (zA0 (v := zAq ad _) rfl) ?_; refine zA rfl (zAt (ad := ad) rfl) ?_; refine zA4 ?_; refine zB8 rfl ?_ ?_
      ·
       intro h38; have g38 := ne_t h38
       have hz : ks ≠ 0 := by simpa using h38
       rw [if_neg hz] at hr2
       cases hr2
       refine zA6 (zA1 ?_); refine zA rfl (zA0 (v := zAq ad _) rfl) ?_; refine zA rfl (zA2 (v := zAq ad _) rfl) ?_; refine zA4 ?_; refine zAg ?_; refine zBl (v := zAq ad _) rfl rfl ?_; exact ⟨_, rfl, rfl, hs.arr [0] 6 (by decide)⟩
      ·
       intro h38; have g38 := ne_f h38
       have hz : ks = 0 := by simpa using h38
       rw [if_pos hz] at hr2; refine zAf ?_; refine zA1 ?_; refine zA rfl (zAs rfl rfl rfl (inI (by omega) (by omega))) ?_; refine zA rfl (zA0 (v := .int .i64 _) rfl) ?_; refine zA4 ?_; exact ⟨(1, ds), by simp only; omega, ⟨by simp only; omega, by simp only; omega, hr2, hs⟩, ⟨rfl, trivial⟩, by repeat (first | exact Out.mix _ _ _ | refine Out.updo rfl ?_ | refine Out.upd rfl ?_ | refine Out.mixIn rfl ?_)⟩
     ·
      refine zA1 ?_; refine zA rfl (zBk uz155 sz53 rfl rfl rfl (by omega) rfl) ?_; refine zA rfl (zA8 uz53 rfl rfl (hs.cellAt 5 rfl rfl)) ?_; refine zA rfl (zA2 (v := .func _ _ _) rfl) ?_; refine zA4 (zA6 (zA1 ?_)); refine zA rfl (zA0 (v := .func _ _ _) rfl) ?_; refine lw_callv0 rfl en92 rfl (w2_sl hE (by omega) hs hst) ?_; clear hs; rintro _ w ⟨rfl, hs⟩; refine zA rfl (zA2 (v := zAq ad _) rfl) ?_; refine zA4 (zA6 (zA1 ?_)); refine zA rfl (zA0 (v := zAq ad _) rfl) ?_; refine zA rfl (zAt (ad := ad) rfl) ?_; refine zA4 ?_; refine zB8 rfl ?_ ?_
      ·
       intro h38; have g38 := ne_t h38
       have hz : ks ≠ 0 := by simpa using h38
       rw [if_neg hz] at hr2
       cases hr2
       refine zA6 (zA1 ?_); refine zA rfl (zA0 (v := zAq ad _) rfl) ?_; refine zA rfl (zA2 (v := zAq ad _) rfl) ?_; refine zA4 ?_; refine zAg ?_; refine zBl (v := zAq ad _) rfl rfl ?_; exact ⟨_, rfl, rfl, hs.arr [0] 6 (by decide)⟩
      ·
       intro h38; have g38 := ne_f h38
       have hz : ks = 0 := by simpa using h38
       rw [if_pos hz] at hr2; refine zAf ?_; refine zA1 ?_; refine zA rfl (zAs rfl rfl rfl (inI (by omega) (by omega))) ?_; refine zA rfl (zA0 (v := .int .i64 _) rfl) ?_; refine zA4 ?_; exact ⟨(2, ds), by simp only; omega, ⟨by simp only; omega, by simp only; omega, hr2, hs⟩, ⟨rfl, trivial⟩, by repeat (first | exact Out.mix _ _ _ | refine Out.updo rfl ?_ | refine Out.upd rfl ?_ | refine Out.mixIn rfl ?_)⟩
     ·
      refine zA1 ?_; refine zA rfl (zBk uz155 sz53 rfl rfl rfl (by omega) rfl) ?_; refine zA rfl (zA8 uz53 rfl rfl (hs.cellAt 5 rfl rfl)) ?_; refine zA rfl (zA2 (v := .func _ _ _) rfl) ?_; refine zA4 (zA6 (zA1 ?_)); refine zA rfl (zA0 (v := .func _ _ _) rfl) ?_; refine lw_callv0 rfl en93 rfl (w3_sl hE (by omega) hs ((hr.cons).cons) hn hlen hst) ?_; clear hs; rintro _ w ⟨rfl, hs⟩; refine zA rfl (zA2 (v := zAq ad _) rfl) ?_; refine zA4 (zA6 (zA1 ?_)); refine zA rfl (zA0 (v := zAq ad _) rfl) ?_; refine zA rfl (zAt (ad := ad) rfl) ?_; refine zA4 ?_; refine zB8 rfl ?_ ?_
      ·
       intro h38; have g38 := ne_t h38
       have hz : ks ≠ 0 := by simpa using h38
       rw [if_neg hz] at hr2
       cases hr2
       refine zA6 (zA1 ?_); refine zA rfl (zA0 (v := zAq ad _) rfl) ?_; refine zA rfl (zA2 (v := zAq ad _) rfl) ?_; refine zA4 ?_; refine zAg ?_; refine zBl (v := zAq ad _) rfl rfl ?_; exact ⟨_, rfl, rfl, hs.arr [0] 6 (by decide)⟩
      ·
       intro h38; have g38 := ne_f h38
       have hz : ks = 0 := by simpa using h38
       rw [if_pos hz] at hr2; refine zAf ?_; refine zA1 ?_; refine zA rfl (zAs rfl rfl rfl (inI (by omega) (by omega))) ?_; refine zA rfl (zA0 (v := .int .i64 _) rfl) ?_; refine zA4 ?_; exact ⟨(3, ds), by simp only; omega, ⟨by simp only; omega, by simp only; omega, hr2, hs⟩, ⟨rfl, trivial⟩, by repeat (first | exact Out.mix _ _ _ | refine Out.updo rfl ?_ | refine Out.upd rfl ?_ | refine Out.mixIn rfl ?_)⟩
     ·
      refine zA1 ?_; refine zA rfl (zBk uz155 sz53 rfl rfl rfl (by omega) rfl) ?_; refine zA rfl (zA8 uz53 rfl rfl (hs.cellAt 5 rfl rfl)) ?_; refine zA rfl (zA2 (v := .func _ _ _) rfl) ?_; refine zA4 (zA6 (zA1 ?_)); refine zA rfl (zA0 (v := .func _ _ _) rfl) ?_; refine lw_callv0 rfl en94 rfl (w4_sl hE (by omega) hs hst) ?_; clear hs; rintro _ w ⟨rfl, hs⟩; refine zA rfl (zA2 (v := zAq ad _) rfl) ?_; refine zA4 (zA6 (zA1 ?_)); refine zA rfl (zA0 (v := zAq ad _) rfl) ?_; refine zA rfl (zAt (ad := ad) rfl) ?_; refine zA4 ?_; refine zB8 rfl ?_ ?_
      ·
       intro h38; have g38 := ne_t h38
       have hz : ks ≠ 0 := by simpa using h38
       rw [if_neg hz] at hr2
       cases hr2
       refine zA6 (zA1 ?_); refine zA rfl (zA0 (v := zAq ad _) rfl) ?_; refine zA rfl (zA2 (v := zAq ad _) rfl) ?_; refine zA4 ?_; refine zAg ?_; refine zBl (v := zAq ad _) rfl rfl ?_; exact ⟨_, rfl, rfl, hs.arr [0] 6 (by decide)⟩
      ·
       intro h38; have g38 := ne_f h38
       have hz : ks = 0 := by simpa using h38
       rw [if_pos hz] at hr2; refine zAf ?_; refine zA1 ?_; refine zA rfl (zAs rfl rfl rfl (inI (by omega) (by omega))) ?_; refine zA rfl (zA0 (v := .int .i64 _) rfl) ?_; refine zA4 ?_; exact ⟨(4, ds), by simp only; omega, ⟨by simp only; omega, by simp only; omega, hr2, hs⟩, ⟨rfl, trivial⟩, by repeat (first | exact Out.mix _ _ _ | refine Out.updo rfl ?_ | refine Out.upd rfl ?_ | refine Out.mixIn rfl ?_)⟩
     ·
      refine zA1 ?_; refine zA rfl (zBk uz155 sz53 rfl rfl rfl (by omega) rfl) ?_; refine zA rfl (zA8 uz53 rfl rfl (hs.cellAt 5 rfl rfl)) ?_; refine zA rfl (zA2 (v := .func _ _ _) rfl) ?_; refine zA4 (zA6 (zA1 ?_)); refine zA rfl (zA0 (v := .func _ _ _) rfl) ?_; refine lw_callv0 rfl en95 rfl (w5_sl hE (by omega) (M := cells b5 [.slice a n c] 23 :: cells b29 (stepsL p b3 b7 b5 b4) 53 :: L) (hs.arr [0, 1, 2, 4, 3, 5] 6 (by decide)) hst) ?_; clear hs; rintro _ w ⟨rfl, hs⟩; replace hs := hs.arr [0, 1, 2, 4, 3, 5] 6 (by decide); refine zA rfl (zA2 (v := zAq ad _) rfl) ?_; refine zA4 (zA6 (zA1 ?_)); refine zA rfl (zA0 (v := zAq ad _) rfl) ?_; refine zA rfl (zAt (ad := ad) rfl) ?_
      refine zA4 ?_; refine zB8 rfl ?_ ?_
      ·
       intro h38; have g38 := ne_t h38
       have hz : ks ≠ 0 := by simpa using h38
       rw [if_neg hz] at hr2
       cases hr2
       refine zA6 (zA1 ?_); refine zA rfl (zA0 (v := zAq ad _) rfl) ?_; refine zA rfl (zA2 (v := zAq ad _) rfl) ?_; refine zA4 ?_; refine zAg ?_; refine zBl (v := zAq ad _) rfl rfl ?_; exact ⟨_, rfl, rfl, hs.arr [0] 6 (by decide)⟩
      ·
       intro h38; have g38 := ne_f h38
       have hz : ks = 0 := by simpa using h38
       rw [if_pos hz] at hr2; refine zAf ?_; refine zA1 ?_; refine zA rfl (zAs rfl rfl rfl (inI (by omega) (by omega))) ?_; refine zA rfl (zA0 (v := .int .i64 _) rfl) ?_; refine zA4 ?_; exact ⟨(5, ds), by simp only; omega, ⟨by simp only; omega, by simp only; omega, hr2, hs⟩, ⟨rfl, trivial⟩, by repeat (first | exact Out.mix _ _ _ | refine Out.updo rfl ?_ | refine Out.upd rfl ?_ | refine Out.mixIn rfl ?_)⟩
     ·
      refine zA1 ?_; refine zA rfl (zBk uz155 sz53 rfl rfl rfl (by omega) rfl) ?_; refine zA rfl (zA8 uz53 rfl rfl (hs.cellAt 5 rfl rfl)) ?_; refine zA rfl (zA2 (v := .func _ _ _) rfl) ?_; refine zA4 (zA6 (zA1 ?_)); refine zA rfl (zA0 (v := .func _ _ _) rfl) ?_; refine lw_callvB rfl en35 rfl (syncDir_sl hE hs (by omega) hst) ?_; clear hs; rintro _ w ⟨rfl, hs⟩; refine zA rfl (zA2 (v := zAq ad _) rfl) ?_; refine zA4 (zA6 (zA1 ?_)); refine zA rfl (zA0 (v := zAq ad _) rfl) ?_; refine zA rfl (zAt (ad := ad) rfl) ?_; refine zA4 ?_; refine zB8 rfl ?_ ?_
      ·
       intro h38; have g38 := ne_t h38
       have hz : ks ≠ 0 := by simpa using h38
       rw [if_neg hz] at hr2
       cases hr2
       refine zA6 (zA1 ?_); refine zA rfl (zA0 (v := zAq ad _) rfl) ?_; refine zA rfl (zA2 (v := zAq ad _) rfl) ?_; refine zA4 ?_; refine zAg ?_; refine zBl (v := zAq ad _) rfl rfl ?_; exact ⟨_, rfl, rfl, hs.arr [0] 6 (by decide)⟩
      ·
       intro h38; have g38 := ne_f h38
       have hz : ks = 0 := by simpa using h38
       rw [if_pos hz] at hr2; refine zAf ?_; refine zA1 ?_; refine zA rfl (zAs rfl rfl rfl (inI (by omega) (by omega))) ?_; refine zA rfl (zA0 (v := .int .i64 _) rfl) ?_; refine zA4 ?_; exact ⟨(6, ds), by simp only; omega, ⟨by simp only; omega, by simp only; omega, hr2, hs⟩, ⟨rfl, trivial⟩, by repeat (first | exact Out.mix _ _ _ | refine Out.updo rfl ?_ | refine Out.upd rfl ?_ | refine Out.mixIn rfl ?_)⟩
    ·
     intro h32; have g32 := of_decide_eq_false h32; refine zBg rfl ?_; refine zA6 (zA1 ?_); refine zA rfl (zA2 (v := .nilIface) rfl) ?_; refine zA4 ?_; refine zAg ?_; refine zBl (v := .nilIface) rfl rfl ?_
     obtain rfl : i = 6 := by omega
     cases hrun
     exact ⟨_, rfl, (zB6 ad).symm, hs.arr [0] 6 (by decide)⟩
theorem pread_sl (hP : ErrP ad g) (hs : Mem g w (zBz p d :: L)) (s : ByteArray) {k : Nat} {b : List UInt8} (hk : d.pread s = (k, b)) : Calls Tryz.prog 67 #[.pointer (some ⟨p, 0, none⟩), .string s] w (Ret fun v w' => ∃ a c, v = .tuple #[.slice a b.length c, zAq ad k] ∧ Mem g w' (own (.slice a b.length c) (zAm b) :: zBz p d :: L)) := by
  have hE := hP.ofPoint; obtain ⟨ho, _⟩ := hs.openD; have hle := ho.lenR_le s; obtain ⟨kl, m, hl⟩ : ∃ kl m, d.lenR s = (kl, m) := ⟨_, _, rfl⟩; rw [hl] at hle; simp only at hle; obtain ⟨kr, x, hr⟩ : ∃ kr x, d.readR s 0 (m : Int) = (kr, x) := ⟨_, _, rfl⟩; simp only [Dk.pread, hl, hr] at hk; refine zAo Tryz.func67 rfl rfl ?_
  skip
  refine zA6 (zA1 ?_); refine zA rfl (zA2 (v := .slice _ _ _) rfl) ?_; refine zA rfl (zA2 (v := .nilIface) rfl) ?_; refine zA4 (zA6 (zA1 ?_)); refine zA rfl (zA0 (v := .pointer (some _)) rfl) ?_; refine zA rfl (zA0 (v := .string _) rfl) ?_; refine zAb rfl en15 (len_sl hE hs s hl) ?_; clear hs; rintro _ w ⟨rfl, hs⟩; refine zA rfl (zA0 (v := .tuple _) rfl) ?_; refine zA rfl (zAa (v := .int .i64 _) rfl rfl) ?_; refine zA rfl (zAa (v := zAq ad _) rfl rfl) ?_; refine zA rfl (zA2 (v := .int .i64 _) rfl) ?_; refine zA rfl (zA2 (v := zAq ad _) rfl) ?_; refine zA4 ?_; refine zA6 ?_; refine zA6 (zA1 ?_); refine zA rfl (zA0 (v := zAq ad _) rfl) ?_; refine zA rfl (zAt (ad := ad) rfl) ?_; refine zA4 ?_
  refine zB8 rfl ?_ ?_
  ·
   intro h16; have g16 := ne_t h16
   have hz : kl ≠ 0 := by simpa using h16
   rw [if_pos hz] at hk
   cases hk
   refine zA6 (zA1 ?_); refine zA rfl (zA0 (v := zAq ad _) rfl) ?_; refine zA rfl (zA2 (v := .slice _ _ _) rfl) ?_; refine zA rfl (zA2 (v := zAq ad _) rfl) ?_; refine zA4 ?_; refine zAg ?_; refine res2 (v := .slice _ _ _) (v2 := zAq ad _) rfl rfl rfl ?_; exact ⟨_, rfl, none, 0, rfl, hs.addE (zDo _)⟩
  ·
   intro h16; have g16 := ne_f h16
   have hz : kl = 0 := by simpa using h16
   rw [if_neg (by omega)] at hk; refine zAf ?_; refine zA6 (zA1 ?_); refine zA rfl (zA0 (v := .pointer (some _)) rfl) ?_; refine zA rfl (zA0 (v := .string _) rfl) ?_; refine zA rfl (zA0 (v := .int .i64 _) rfl) ?_; refine zAb rfl en76 (read_sl hE hs s (off := 0) (m := m) (inI (by decide) (by decide)) (inI (by omega) (by omega)) hr) ?_; clear hs; rintro _ w ⟨ar, cr, rfl, hs⟩; refine zA rfl (zA0 (v := .tuple _) rfl) ?_; refine zA rfl (zAa (v := .slice _ _ _) rfl rfl) ?_; refine zA rfl (zAa (v := zAq ad _) rfl rfl) ?_; refine zA rfl (zA2 (v := .slice _ _ _) rfl) ?_; refine zA rfl (zA2 (v := zAq ad _) rfl) ?_; refine zA4 ?_; refine zA6 ?_; refine zA6 (zA1 ?_)
   refine zA rfl (zA0 (v := zAq ad _) rfl) ?_; refine zA rfl (zAt (ad := ad) rfl) ?_; refine zA4 ?_; refine zB8 rfl ?_ ?_
   ·
    intro h26; have g26 := ne_t h26
    have hz2 : kr ≠ 0 := by simpa using h26
    rw [if_pos hz2] at hk
    cases hk
    refine zA6 (zA1 ?_); refine zA rfl (zA0 (v := zAq ad _) rfl) ?_; refine zA rfl (zA2 (v := .slice _ _ _) rfl) ?_; refine zA rfl (zA2 (v := zAq ad _) rfl) ?_; refine zA4 ?_; refine zAg ?_; refine res2 (v := .slice _ _ _) (v2 := zAq ad _) rfl rfl rfl ?_; exact ⟨_, rfl, none, 0, rfl, hs.tail.addE (zDo _)⟩
   ·
    intro h26; have g26 := ne_f h26
    have hz2 : kr = 0 := by simpa using h26
    rw [if_neg (by omega)] at hk; obtain ⟨_, hoc, _⟩ := hs.ownForm 0 rfl; have hxl : x.length ≤ 4194304 := readR_len hr hle; refine zAf ?_; refine zA6 (zA1 ?_); refine zA rfl (zA0 (v := .slice _ _ _) rfl) ?_; refine zAb rfl en108 (copen_sl hP hs (hs.rdOwn 0 rfl) rfl hoc (by omega) hk) ?_; clear hs; rintro _ w ⟨ao, co, rfl, hs⟩; refine zA rfl (zAa (v := .slice _ _ _) rfl rfl) ?_; refine zA rfl (zAa (v := zAq ad _) rfl rfl) ?_; refine zA rfl (zA2 (v := .slice _ _ _) rfl) ?_; refine zA rfl (zA2 (v := zAq ad _) rfl) ?_; refine zA4 ?_; refine zAg ?_; refine res2 (v := .slice _ _ _) (v2 := zAq ad _) rfl rfl rfl ?_; exact ⟨_, rfl, ao, co, rfl, hs.drop 1⟩
end Go.Proofs.YtdkgdjnbpjjfmaaGreatDoor
namespace Go.Proofs.YtdkgdjnbpjjfmaaGreatDoor
set_option linter.all false
open Go.RowKit
attribute [local irreducible] zAq eV
variable {g w : World} {L M : List HP} {ad : Nat → Addr} {p d pv ev : Nat} {dk : Dk} {f : ByteArray → Option (List UInt8)} {V U : Vw} {q r c n : Nat} {b : List UInt8}

/-! ### the files -/
def mtN : ByteArray := ⟨#[109, 101, 116, 97]⟩
def snN : ByteArray := ⟨#[109, 101, 116, 97, 45, 115, 110, 97, 112]⟩
abbrev LgN : List ByteArray := [mtN, snN]
theorem lgN_new : ∀ n ∈ LgN, zCc snN ≠ n := by decide +kernel
theorem mtN_valid : zCa mtN.data.toList = true := by decide +kernel
theorem snN_valid : zCa snN.data.toList = true := by decide +kernel
theorem snN_valid2 : zCa (zCc snN).data.toList = true := by decide +kernel
theorem mt_sn : mtN ≠ snN := by decide +kernel
def snapB (q : Nat) (V : Vw) : List UInt8 := zB4 q ++ vwB V
/-- What the snapshot tells. -/
def Snp (f : ByteArray → Option (List UInt8)) (V : Vw) (q : Nat) : Prop := f snN = none ∧ V = [] ∧ q = 0 ∨ f snN = some (zBt (snapB q V))
theorem zDb {s : ByteArray} {v : List UInt8} (h : f s = some v) : zDq f s v = f := by
  funext n
  unfold zDq
  split
  · rename_i e; rw [e, h]
  · rfl
theorem zEc (f : ByteArray → Option (List UInt8)) (s : ByteArray) (u v : List UInt8) : zDq (zDq f s u) s v = zDq f s v := by
  funext n
  unfold zDq
  split
  · rfl
  · rfl
def zG3 : List Nat := [101, 102, 103, 104, 105, 106, 107, 108, 109, 110, 112, 113]
abbrev ErrM (ad : Nat → Addr) (g : World) : Prop := Errs zG3 ad g.heap.size g
theorem Errs.toV (h : ErrM ad g) : ErrV ad g := Errs.sub h (fun c hc => by simp only [viewCodes, zG3, List.mem_cons, List.not_mem_nil, or_false] at *; omega)
theorem Errs.toK (h : ErrM ad g) : ErrK ad g := Errs.sub h (fun c hc => by simp only [zE6, zG3, List.mem_cons, List.not_mem_nil, or_false] at *; omega)
theorem Errs.toP (h : ErrM ad g) : ErrP ad g := Errs.sub h (fun c hc => by simp only [zFy, zG3, List.mem_cons, List.not_mem_nil, or_false] at *; omega)
theorem Errs.toW (h : ErrM ad g) : ErrW ad g := Errs.sub h (fun c hc => by simp only [vintCodes, zG3, List.mem_cons, List.not_mem_nil, or_false] at *; omega)
theorem Ent.inv (h : Ent V q b U r c n) (hb : b ≠ []) : (ErdC b Option.none ∧ U = V ∧ r = q ∧ c = 0 ∧ n = 0) ∨ (∃ s z k x, ErdC b (some (s, (k, x), z)) ∧ s ≠ q + 1 ∧ U = V ∧ r = q ∧ c = 0 ∧ n = 0) ∨ (∃ z k x, ErdC b (some (q + 1, (k, x), z)) ∧ (V.apply k x).1.1 ≠ 0 ∧ U = V ∧ r = q ∧ c = 0 ∧ n = 0) ∨ (∃ z k x c' n', ErdC b (some (q + 1, (k, x), z)) ∧ (V.apply k x).1 = (0, Option.none) ∧ Ent (V.apply k x).2 (q + 1) (b.drop z) U r c' n' ∧ c = c' + 1 ∧ n = n' + z) := by
  cases h with
  | none h => exact .inl ⟨h.resolve_left hb, rfl, rfl, rfl, rfl⟩
  | @bad _ _ s z e _ h hq =>
    obtain ⟨k, x⟩ := e
    by_cases h1 : s = q + 1
    · subst h1; exact .inr (.inr (.inl ⟨z, k, x, h, hq.resolve_left (fun e => e rfl), rfl, rfl, rfl, rfl⟩))
    · exact .inr (.inl ⟨s, z, k, x, h, h1, rfl, rfl, rfl, rfl⟩)
  | @step _ _ _ _ z c' n' e _ h ha hn =>
    obtain ⟨k, x⟩ := e; exact .inr (.inr (.inr ⟨z, k, x, c', n', h, ha, hn, rfl, rfl⟩))
theorem Ent.of_nil (h : Ent V q [] U r c n) : U = V ∧ r = q ∧ c = 0 ∧ n = 0 := by
  cases h with
  | none h => exact ⟨rfl, rfl, rfl, rfl⟩
  | bad h hq => exact ⟨rfl, rfl, rfl, rfl⟩
  | step h ha hn => have := (h.fine _ _ _ rfl).2; simp at this; omega
abbrev lgCells (d ev pv q c n : Nat) : List Value := [.pointer (some ⟨d, 0, none⟩), .int .i64 ev, .pointer (some ⟨pv, 0, none⟩), .int .i64 q, .int .i64 c, .int .i64 n]
abbrev lgP (p d ev pv q c n : Nat) : HP := cells p (lgCells d ev pv q c n) 74
def LogC (p d ev : Nat) (V : Vw) (q c n : Nat) : HP := ex fun pv : Nat => stars [lgP p d ev pv q c n, zD1 pv V]
theorem Mem.openL (hs : Mem g w (LogC p d ev V q c n :: L)) : ∃ pv, Mem g w (lgP p d ev pv q c n :: zD1 pv V :: L) := by
  obtain ⟨pv, h⟩ := hs.unex; exact ⟨pv, h.unstars⟩
theorem Mem.closeL (hs : Mem g w (lgP p d ev pv q c n :: zD1 pv V :: L)) : Mem g w (LogC p d ev V q c n :: L) :=
  Mem.ex (f := fun pv : Nat => Go.Proofs.YtdkgdjnbpjjfmaaGreatDoor.stars [lgP p d ev pv q c n, zD1 pv V]) pv (Mem.stars (M := [lgP p d ev pv q c n, zD1 pv V]) hs)
theorem zFj (hs : Mem g w (LogC p d ev V q c n :: L)) : Calls Tryz.prog 20 #[.pointer (some ⟨p, 0, none⟩)] w (Ret fun v w' => v = .int .i64 q ∧ Mem g w' (LogC p d ev V q c n :: L)) := by
  obtain ⟨pv, hs⟩ := hs.openL; refine zAo Tryz.func20 rfl rfl ?_
  skip
  refine zA6 (zA1 ?_); refine zA rfl (zA2 (v := .int .i64 _) rfl) ?_; refine zA4 (zA6 (zA1 ?_)); refine zA rfl (zA0 (v := .pointer (some _)) rfl) ?_; refine zA rfl (zA7 rfl) ?_; refine zA rfl (zA3 (o' := 3) zCf rfl sz2 rfl rfl rfl) ?_; refine zA rfl (zA8 uz2 rfl rfl (hs.cellAt 0 rfl rfl)) ?_; refine zA rfl (zA2 (v := .int .i64 _) rfl) ?_; refine zA4 ?_; refine zAg ?_; refine zBl (v := .int .i64 _) rfl rfl ?_; exact ⟨_, rfl, rfl, hs.closeL⟩
theorem zGa (hs : Mem g w (LogC p d ev V q c n :: L)) : Calls Tryz.prog 21 #[.pointer (some ⟨p, 0, none⟩)] w (Ret fun v w' => ∃ u, v = .pointer (some ⟨u, 0, none⟩) ∧ Mem g w' (zD1 u V :: LogC p d ev V q c n :: L)) := by
  obtain ⟨pv, hs⟩ := hs.openL; refine zAo Tryz.func21 rfl rfl ?_
  skip
  refine zA6 (zA1 ?_); refine zA rfl (zA2 (v := .pointer none) rfl) ?_; refine zA4 (zA6 (zA1 ?_)); refine zA rfl (zA0 (v := .pointer (some _)) rfl) ?_; refine zA rfl (zA7 rfl) ?_; refine zA rfl (zA3 (o' := 2) zCf rfl sz33 rfl rfl rfl) ?_; refine zA rfl (zA8 uz33 rfl rfl (hs.cellAt 0 rfl rfl)) ?_; refine zAb rfl en16 (cloneq_sl (hs.arr [1, 0] 2 (by decide))) ?_; clear hs; rintro _ w ⟨u, rfl, hs⟩; refine zA rfl (zA2 (v := .pointer (some _)) rfl) ?_; refine zA4 ?_; refine zAg ?_; refine zBl (v := .pointer (some _)) rfl rfl ?_; exact ⟨_, rfl, u, rfl, (Mem.closeL (hs.arr [2, 1, 0] 3 (by decide))).arr [1, 0] 2 (by decide)⟩
theorem snapNo_sl (hM : ErrM ad g) (hs : Mem g w (lgP p d ev pv 0 0 0 :: zD1 pv [] :: zBz d dk :: L)) (hp : dk.pread snN = (107, [])) : Calls Tryz.prog 33 #[.pointer (some ⟨p, 0, none⟩)] w (Ret fun v w' => v = .nilIface ∧ Mem g w' (lgP p d ev pv 0 0 0 :: zD1 pv [] :: zBz d dk :: L)) := by
  have hP := hM.toP; refine zAo Tryz.func33 rfl rfl ?_
  skip
  refine zA6 (zA1 ?_); refine zA rfl (zA2 (v := .nilIface) rfl) ?_; refine zA4 (zA6 (zA1 ?_)); refine zA rfl (zA0 (v := .pointer (some _)) rfl) ?_; refine zA rfl (zA7 rfl) ?_; refine zA rfl (zA3 (o' := 0) zCf rfl sz25 rfl rfl rfl) ?_; refine zA rfl (zA8 uz25 rfl rfl (hs.cellAt 0 rfl rfl)) ?_; refine zAb rfl en67 (pread_sl hP (hs.arr [2, 0, 1] 3 (by decide)) snN hp) ?_; clear hs; rintro _ w ⟨a11, c11, rfl, hs⟩; refine zA rfl (zA0 (v := .tuple _) rfl) ?_; refine zA rfl (zAa (v := .slice _ _ _) rfl rfl) ?_; refine zA rfl (zAa (v := zAq ad _) rfl rfl) ?_; refine zA rfl (zA2 (v := .slice _ _ _) rfl) ?_; refine zA rfl (zA2 (v := zAq ad _) rfl) ?_; refine zA4 ?_; refine zA6 ?_; refine zA6 (zA1 ?_)
  refine zA rfl (zA0 (v := zAq ad _) rfl) ?_; refine zA rfl (zA8 zCq rfl rfl (hP.cellW hs 107 (by decide) rfl)) ?_; refine zA rfl (zEk (hP.atW hs) (by decide) (by decide) rfl rfl) ?_; refine zA4 ?_; refine zBb rfl (rfl) ?_; refine zA6 (zA1 ?_); refine zA rfl (zA2 (v := .nilIface) rfl) ?_; refine zA4 ?_; refine zAg ?_; refine zBl (v := .nilIface) rfl rfl ?_; exact ⟨_, rfl, rfl, hs.arr [2, 3, 1] 4 (by decide)⟩
theorem snap_sl (hM : ErrM ad g) (hs : Mem g w (lgP p d ev pv 0 0 0 :: zD1 pv U :: zBz d dk :: L)) (hp : dk.pread snN = (0, snapB q V)) (ho : V.ok) (hu : V.sums) (hl : V.length ≤ 100) (hq : q < 4611686018427387904) : Calls Tryz.prog 33 #[.pointer (some ⟨p, 0, none⟩)] w (Ret fun v w' => v = .nilIface ∧ ∃ pv', Mem g w' (lgP p d ev pv' q 0 0 :: zD1 pv' V :: zBz d dk :: L)) := by
  have hP := hM.toP; have hvb : (vwB V).length = (vwBody V).length + 4 := zC1 _; have hvl := vwBody_len ho hl; have hql := zCm q; have hsl : (snapB q V).length = (zB4 q).length + (vwB V).length := List.length_append
  have htk : ((snapB q V).take (snapB q V).length).drop (0 + (zB4 q).length) = vwB V := by rw [List.take_length, Nat.zero_add, snapB, List.drop_left]
  refine zAo Tryz.func33 rfl rfl ?_
  skip
  refine zA6 (zA1 ?_); refine zA rfl (zA2 (v := .nilIface) rfl) ?_; refine zA4 (zA6 (zA1 ?_)); refine zA rfl (zA0 (v := .pointer (some _)) rfl) ?_; refine zA rfl (zA7 rfl) ?_; refine zA rfl (zA3 (o' := 0) zCf rfl sz25 rfl rfl rfl) ?_; refine zA rfl (zA8 uz25 rfl rfl (hs.cellAt 0 rfl rfl)) ?_; refine zAb rfl en67 (pread_sl hP (hs.arr [2, 0, 1] 3 (by decide)) snN hp) ?_; clear hs; rintro _ w ⟨a11, c11, rfl, hs⟩; refine zA rfl (zA0 (v := .tuple _) rfl) ?_; refine zA rfl (zAa (v := .slice _ _ _) rfl rfl) ?_; refine zA rfl (zAa (v := zAq ad _) rfl rfl) ?_; refine zA rfl (zA2 (v := .slice _ _ _) rfl) ?_; refine zA rfl (zA2 (v := zAq ad _) rfl) ?_; refine zA4 ?_; refine zA6 ?_; refine zA6 (zA1 ?_)
  refine zA rfl (zA0 (v := zAq ad _) rfl) ?_; refine zA rfl (zA8 zCq rfl rfl (hP.cellW hs 107 (by decide) rfl)) ?_; refine zA rfl (zEk (hP.atW hs) (by decide) (by decide) rfl rfl) ?_; refine zA4 ?_; refine zAx rfl (rfl) ?_; refine zAf ?_; refine zA6 ?_; refine zA6 (zA1 ?_); refine zA rfl (zA0 (v := zAq ad _) rfl) ?_; refine zA rfl (zAt (ad := ad) rfl) ?_; refine zA4 ?_; refine zAx rfl (rfl) ?_; refine zAf ?_; refine zA6 (zA1 ?_); refine zA rfl (zA0 (v := .slice _ _ _) rfl) ?_; refine zAb rfl en68 (zFv ad hs (hs.rdOwn 0 rfl) rfl (by omega)) ?_; clear hs; rintro _ w ⟨rb, rfl, hs⟩; refine zA rfl (zA2 (v := .pointer (some _)) rfl) ?_; refine zA4 (zA6 (zA1 ?_))
  refine zA rfl (zA0 (v := .pointer (some _)) rfl) ?_; refine zA rfl (zA0 (v := .pointer (some _)) rfl) ?_; refine zAb rfl zDr (zBs (rest := vwB V) (n := q) (most := 9223372036854775807) hM.toW hs (by omega) (by rfl) (by omega) (by omega)) ?_; clear hs; rintro _ w ⟨rfl, hs⟩; refine zA rfl (zAh zBj uz2 rfl (c := ((q : Nat) : Int)) (zCp.wrap ⟨by omega, by omega⟩)) ?_; refine zA rfl (zA7 rfl) ?_; refine zA rfl (zA3 (o' := 3) zCf rfl sz2 rfl rfl rfl) ?_; refine zAr (v := .int .i64 _) hs 3 rfl sz2 rfl rfl rfl rfl ?_; clear hs; intro w hs
  try simp only [List.set_cons_succ, List.set_cons_zero] at hs
  refine zA4 ?_; refine zA6 ?_; refine zA6 (zA1 ?_); refine zA rfl (zA0 (v := .pointer (some _)) rfl) ?_; refine zAb rfl en70 (errOK_sl hs) ?_; clear hs; rintro _ w ⟨rfl, hs⟩; refine zA rfl (zBf rfl) ?_; refine zA4 ?_; refine zAx rfl (rfl) ?_; refine zAf ?_; refine zA6 (zA1 ?_); refine zA rfl (zA0 (v := .pointer (some _)) rfl) ?_; refine zA rfl (zA0 (v := .slice _ _ _) rfl) ?_; refine zA rfl (zA0 (v := .pointer (some _)) rfl) ?_; refine zAb rfl en72 (at_sl hs) ?_; clear hs; rintro _ w ⟨rfl, hs⟩; refine zA rfl (zC2 zC0 sz5 rfl rfl (lo := 0 + (zB4 q).length) rfl (by omega)) ?_
  refine zAb rfl en71 (readq_sl hP hM.toW hM.toV hs ho hu hl (by rw [← htk]; exact (hs.rdOwn 1 rfl).subB (by omega) (Nat.le_refl _)) (by omega) (by have := (hs.ownForm 1 rfl).2.1; omega)) ?_; clear hs; rintro _ w ⟨pw, rfl, hs⟩; refine zA rfl (zA0 (v := .tuple _) rfl) ?_; refine zA rfl (zAa (v := .pointer (some _)) rfl rfl) ?_; refine zA rfl (zAa (v := .nilIface) rfl rfl) ?_; refine zA rfl (zA7 rfl) ?_; refine zA rfl (zA3 (o' := 2) zCf rfl sz33 rfl rfl rfl) ?_; refine zAr (v := .pointer (some _)) hs 4 rfl sz33 rfl rfl rfl rfl ?_; clear hs; intro w hs
  try simp only [List.set_cons_succ, List.set_cons_zero] at hs
  refine zA rfl (zA2 (v := .nilIface) rfl) ?_; refine zA4 (zA6 (zA1 ?_)); refine zA rfl (zA0 (v := .nilIface) rfl) ?_; refine zA rfl (zA2 (v := .nilIface) rfl) ?_; refine zA4 ?_; refine zAg ?_; refine zBl (v := .nilIface) rfl rfl ?_; exact ⟨_, rfl, rfl, pw, hs.arr [4, 0, 3] 6 (by decide)⟩
theorem zCu : mtN ∈ LgN := List.mem_cons_self ..
theorem mem_sn : snN ∈ LgN := List.mem_cons_of_mem _ (List.mem_cons_self ..)
abbrev LgI (f : ByteArray → Option (List UInt8)) (d : Dk) : Prop := RawI LgN 200000 f d
set_option maxHeartbeats 2000000 in
set_option maxRecDepth 10000 in
theorem entries_sl (hM : ErrM ad g) {V0 : Vw} {q0 : Nat} {mb : List UInt8} (hI : LgI f dk) (ha : dk.armed = 0) (hcl : dk.calls < 900000) (hf : f mtN = some mb) (hml : mb.length ≤ 1000000) (hent : Ent V0 q0 mb V q c n) (hq : q < 4611686018427387904) (hs : Mem g w (lgP p d ev pv q0 0 0 :: zD1 pv V0 :: zBz d dk :: L)) :
    Calls Tryz.prog 36 #[.pointer (some ⟨p, 0, none⟩), .int .i64 (mb.length : Nat)] w (Ret fun v w' => v = .nilIface ∧ ∃ dk2, dk2.armed = 0 ∧ dk2.room = dk.room ∧ dk2.calls ≤ dk.calls + 2 ∧ LgI (zDq f mtN (mb.take n)) dk2 ∧ Mem g w' (lgP p d ev pv q c n :: zD1 pv V :: zBz d dk2 :: L)) := by
  have hK := hM.toK; have hV := hM.toV; have hle := hent.le; refine zAo Tryz.func36 rfl rfl ?_
  skip
  refine zA6 (zA1 ?_); refine zA rfl (zA2 (v := .nilIface) rfl) ?_; refine zA4 (zA6 (zA1 ?_)); refine zA rfl (zA0 (v := .pointer (some _)) rfl) ?_; refine zA rfl (zA7 rfl) ?_; refine zA rfl (zA3 (o' := 0) zCf rfl sz25 rfl rfl rfl) ?_; refine zA rfl (zA8 uz25 rfl rfl (hs.cellAt 0 rfl rfl)) ?_; refine zA rfl (zA0 (v := .int .i64 _) rfl) ?_; refine zAb rfl en76 (read_sl hK (hs.arr [2, 0, 1] 3 (by decide)) mtN (off := 0) (m := (mb.length : Int)) (inI (by decide) (by decide)) (inI (by omega) (by omega)) (hI.readR zCu hf)) ?_; clear hs; rintro _ w ⟨a18, c18, rfl, hs⟩; rw [zB6]; refine zA rfl (zA0 (v := .tuple _) rfl) ?_; refine zA rfl (zAa (v := .slice _ _ _) rfl rfl) ?_
  refine zA rfl (zAa (v := .nilIface) rfl rfl) ?_; refine zA rfl (zA2 (v := .slice _ _ _) rfl) ?_; refine zA rfl (zA2 (v := .nilIface) rfl) ?_; refine zA4 ?_; refine zA6 ?_; refine zA6 (zA1 ?_); refine zA rfl (zA0 (v := .nilIface) rfl) ?_; refine zA rfl (zBf rfl) ?_; refine zA4 ?_; refine zAx rfl (rfl) ?_; refine zAf ?_; refine zA6 ?_; refine zAw ?_
  refine zBw (X := Vw × Nat × Nat × Nat) [7, 8, 9, 10, 24, 25, 26, 27, 28, 29, 30, 31, 32, 33, 34, 35, 36, 37, 38, 39, 40, 41, 42, 43, 44, 45, 46, 47, 48, 49, 50, 51, 52, 53, 54, 55, 56, 57, 58, 59, 60, 61, 62, 63, 64, 65, 66, 67, 68, 69, 70, 71, 72, 73, 74, 75, 76, 77, 78, 79, 80, 81, 82, 83, 84, 85, 86, 87, 88, 89] (fun x => []) (fun x w => (x.2.2.2 ≤ mb.length ∧ ∃ c' n', Ent x.1 x.2.1 (mb.drop x.2.2.2) V q c' n' ∧ x.2.2.1 + c' = c ∧ x.2.2.2 + n' = n) ∧ Mem g w (lgP p d ev pv x.2.1 x.2.2.1 x.2.2.2 :: own (.slice a18 mb.length c18) (zAm mb) :: zBz d dk :: zD1 pv x.1 :: L)) (fun x => mb.length - x.2.2.2) ((V0, q0, 0, 0)) ?_ ?_ ?_
  · exact trivial
  · exact ⟨⟨Nat.zero_le _, c, n, hent, Nat.zero_add _, Nat.zero_add _⟩, hs.arr [2, 0, 1, 3] 4 (by decide)⟩
  clear hs; rintro x ξ w hI; obtain ⟨W, qc, cc, pos⟩ := x; obtain ⟨⟨hpl, c', n', hE, hce, hne⟩, hs⟩ := hI; simp only at hpl hE hce hne hs; have hEl := hE.le; refine zA6 ?_; refine zA6 (zA1 ?_); refine zA rfl (zA0 (v := .pointer (some _)) rfl) ?_; refine zA rfl (zA7 rfl) ?_; refine zA rfl (zA3 (o' := 5) zCf rfl sz3 rfl rfl rfl) ?_; refine zA rfl (zA8 uz3 rfl rfl (hs.cellAt 0 rfl rfl)) ?_; refine zA rfl (zA0 (v := .int .i64 _) rfl) ?_; refine zA rfl (zB7 rfl rfl) ?_; refine zA4 ?_; refine zB8 rfl ?_ ?_
  ·
   intro h29; have g29 := of_decide_eq_true h29
   have hbn : mb.drop pos ≠ [] := fun e => by have := List.drop_eq_nil_iff.1 e; omega
   have hcap := (hs.ownForm 1 rfl).2.1; refine zAf ?_; refine zAw ?_; refine zA6 ?_
   obtain ⟨hr, rfl, rfl, rfl, rfl⟩ | ⟨s, z, k, x, hr, hbs, rfl, rfl, rfl, rfl⟩ | ⟨z, k, x, hr, hba, rfl, rfl, rfl, rfl⟩ | ⟨z, k, x, c2, n2, hr, hap, hE2, rfl, rfl⟩ := hE.inv hbn
   ·
    refine zA1 ?_; refine zA rfl (zA0 (v := .slice _ _ _) rfl) ?_; refine zA rfl (zA0 (v := .pointer (some _)) rfl) ?_; refine zA rfl (zA7 rfl) ?_; refine zA rfl (zA3 (o' := 5) zCf rfl sz3 rfl rfl rfl) ?_; refine zA rfl (zA8 uz3 rfl rfl (hs.cellAt 0 rfl rfl)) ?_; refine zA rfl (zC2 zC0 sz5 rfl rfl (lo := pos) rfl (by omega)) ?_; refine zAb rfl en77 (hr.calls hM.toP hM.toW hV hs (by have h9 := (hs.rdOwn 1 rfl).subB (lo := pos) (hi := mb.length) (by omega) (Nat.le_refl _); rw [List.take_length] at h9; exact h9) (by simp) (by omega)) ?_; clear hs; rintro _ w ⟨fe, eb, hfp, hf0, rfl, hs⟩; refine zA rfl (zA0 (v := .tuple _) rfl) ?_; refine zA rfl (zAa (v := .int .i64 _) rfl rfl) ?_
    refine zA rfl (zAa (v := .agg _) rfl rfl) ?_; refine zA rfl (zAa (v := .int .i64 _) rfl rfl) ?_; refine zA rfl (zAa (v := flV ad _ _) rfl rfl) ?_; refine zBd hs rfl ze41 ?_; clear hs; intro b8 w hs
    try simp only [List.set_cons_succ, List.set_cons_zero] at hs
    refine zA rfl (zA2 (v := .int .i64 _) rfl) ?_; refine zAn hs 0 rfl rfl rfl zEq rfl rfl ?_; clear hs; intro w hs
    try simp only [List.set_cons_succ, List.set_cons_zero] at hs
    refine zA rfl (zA2 (v := .int .i64 _) rfl) ?_; refine zA rfl (zA2 (v := flV ad _ _) rfl) ?_; refine zA4 ?_; refine zA6 ?_; refine zA6 ?_; refine zAy zBv (hs.drop 5) ?_; intro w tr hK; replace hs := tr _ hs; clear tr; refine zA5 0 rfl rfl (fun w hs => zA0 (v := flV ad _ _) rfl) hK ?_; refine zA5 1 rfl rfl (fun w hs => zF7 hfp rfl) hK ?_; refine zA5 2 rfl rfl (fun w hs => zA0 (v := .bool _) rfl) hK ?_; refine zAd 3 rfl rfl rfl rfl ((by simp [hf0])) hK ?_; refine zAd 4 rfl rfl rfl rfl ((by simp [hf0])) hK ?_; refine zAd 5 rfl rfl rfl rfl ((by simp [hf0])) hK ?_; refine zAd 6 rfl rfl rfl rfl ((by simp [hf0])) hK ?_; refine zAd 7 rfl rfl rfl rfl ((by simp [hf0])) hK ?_
    refine zA5 8 rfl rfl (fun w hs => zAj (v := .bool _) rfl ((by simp [hf0])) rfl) hK ?_; refine zA5 9 rfl rfl (fun w hs => zA0 (v := .bool _) rfl) hK ?_; refine zAd 10 rfl rfl rfl rfl rfl hK ?_; refine zAd 11 rfl rfl rfl rfl rfl hK ?_; refine zAd 12 rfl rfl rfl rfl rfl hK ?_; refine zAd 13 rfl rfl rfl rfl rfl hK ?_; refine zAd 14 rfl rfl rfl rfl rfl hK ?_; refine zAd 15 rfl rfl rfl rfl rfl hK ?_; refine zAd 16 rfl rfl rfl rfl rfl hK ?_; refine zA5 17 rfl rfl (fun w hs => zAj (v := .bool _) rfl rfl rfl) hK ?_; refine zA5 18 rfl rfl (fun w hs => zA0 (v := .bool _) rfl) hK ?_; refine zAd 19 rfl rfl rfl rfl rfl hK ?_; refine zAd 20 rfl rfl rfl rfl rfl hK ?_
    refine zAd 21 rfl rfl rfl rfl rfl hK ?_; refine zAd 22 rfl rfl rfl rfl rfl hK ?_; refine zAd 23 rfl rfl rfl rfl rfl hK ?_; refine zAd 24 rfl rfl rfl rfl rfl hK ?_; refine zAd 25 rfl rfl rfl rfl rfl hK ?_; refine zA5 26 rfl rfl (fun w hs => zAj (v := .bool _) rfl rfl rfl) hK ?_; refine zAp (by kernel_rfl) ?_; clear hK; refine zBb rfl rfl ?_; refine zBg rfl ?_; refine zA6 ?_; refine zA6 ?_
    have e5 : c = cc := by omega
    subst e5
    have e6 : n = pos := by omega
    subst e6; have h9 : Mem g w (lgP p d ev pv q c n :: own (.slice a18 mb.length c18) (zAm mb) :: zBz d dk :: zD1 pv V :: L) := hs.tail.tail; replace hs := h9; clear h9; refine zA1 ?_; refine zA rfl (zA0 (v := .pointer (some _)) rfl) ?_; refine zA rfl (zA7 rfl) ?_; refine zA rfl (zA3 (o' := 5) zCf rfl sz3 rfl rfl rfl) ?_; refine zA rfl (zA8 uz3 rfl rfl (hs.cellAt 0 rfl rfl)) ?_; refine zA rfl (zA0 (v := .int .i64 _) rfl) ?_; refine zA rfl (zBn rfl rfl) ?_; refine zA4 ?_; refine zB8 rfl ?_ ?_
    ·
     intro h95; have g95 := of_decide_eq_true h95; refine zA6 (zA1 ?_); refine zA rfl (zA2 (v := .nilIface) rfl) ?_; refine zA4 ?_; refine zAg ?_; refine zBl (v := .nilIface) rfl rfl ?_; exact ⟨_, rfl, rfl, dk, ha, rfl, by omega, by rw [List.take_of_length_le (by omega), zDb hf]; exact hI, hs.arr [0, 3, 2] 4 (by decide)⟩
    ·
     intro h95; have g95 := of_decide_eq_false h95; obtain ⟨kc, dc, hcut, hcr, hcc, hccase⟩ := hI.cut zCu hf (m := n) (by omega); obtain ⟨rfl, hup2, har2, hI4⟩ := hccase.resolve_right (fun h => h.2.2.1 ha); refine zAf ?_; refine zA6 ?_; refine zA6 ?_; refine zAy zBv (hs.drop 2) ?_; intro w tr hK; replace hs := tr _ hs; clear tr; refine zA5 0 rfl rfl (fun w hs => zA0 (v := .pointer (some _)) rfl) hK ?_; refine zA5 1 rfl rfl (fun w hs => zA7 rfl) hK ?_; refine zA5 2 rfl rfl (fun w hs => zA3 (o' := 0) zCf rfl sz25 rfl rfl rfl) hK ?_; refine zA5 3 rfl rfl (fun w hs => zA8 uz25 rfl rfl (hs.cellAt 0 rfl rfl)) hK ?_; refine zA5 4 rfl rfl (fun w hs => zA0 (v := .pointer (some _)) rfl) hK ?_
     refine zA5 5 rfl rfl (fun w hs => zA7 rfl) hK ?_; refine zA5 6 rfl rfl (fun w hs => zA3 (o' := 5) zCf rfl sz3 rfl rfl rfl) hK ?_; refine zA5 7 rfl rfl (fun w hs => zA8 uz3 rfl rfl (hs.cellAt 0 rfl rfl)) hK ?_; refine zA9 [8] ?_; refine ⟨⟨_, rfl, ?_⟩, trivial⟩; refine zAb rfl en18 (cut_sl hM.toK (hs.arr [2, 0, 1, 3] 4 (by decide)) (by omega) mtN (m := ((n : Nat) : Int)) (inI (by omega) (by omega)) hcut) ?_; clear hs; rintro _ w ⟨rfl, hs⟩; clear hK; have hK := hs.tail; refine zA4 ⟨hK, ?_⟩; refine zA5 9 rfl rfl (fun w hs => zA2 (v := zAq ad _) rfl) hK ?_; refine zAp (by kernel_rfl) ?_; clear hK; refine zA6 (zA1 ?_); refine zA rfl (zA0 (v := zAq ad _) rfl) ?_
     refine zA rfl (zAt (ad := ad) rfl) ?_; refine zA4 ?_; refine zAx rfl (rfl) ?_; refine zAf ?_; refine zA6 ?_; have hI5 := hI4 (hs.openD).1; obtain ⟨ds, hsy, hsr, hsa, hsc, hI6⟩ := hI5.sync (har2 ha) zCu (zBu _ _ _); refine zA1 ?_; refine zA rfl (zA0 (v := .pointer (some _)) rfl) ?_; refine zA rfl (zA7 rfl) ?_; refine zA rfl (zA3 (o' := 0) zCf rfl sz25 rfl rfl rfl) ?_; refine zA rfl (zA8 uz25 rfl rfl (hs.cellAt 1 rfl rfl)) ?_; refine zAb rfl en39 (zFs hM.toK hs (by omega) mtN hsy) ?_; clear hs; rintro _ w ⟨rfl, hs⟩; refine zA rfl (zA2 (v := zAq ad _) rfl) ?_; refine zA4 ?_; refine zAg ?_; refine zBl (v := zAq ad _) rfl rfl ?_
     exact ⟨_, rfl, zB6 ad, ds, hsa, hsr.trans hcr, by omega, hI6 (hs.openD).1, hs.arr [1, 3, 0] 4 (by decide)⟩
   ·
    refine zA1 ?_; refine zA rfl (zA0 (v := .slice _ _ _) rfl) ?_; refine zA rfl (zA0 (v := .pointer (some _)) rfl) ?_; refine zA rfl (zA7 rfl) ?_; refine zA rfl (zA3 (o' := 5) zCf rfl sz3 rfl rfl rfl) ?_; refine zA rfl (zA8 uz3 rfl rfl (hs.cellAt 0 rfl rfl)) ?_; refine zA rfl (zC2 zC0 sz5 rfl rfl (lo := pos) rfl (by omega)) ?_; refine zAb rfl en77 (hr.calls hM.toP hM.toW hV hs (by have h9 := (hs.rdOwn 1 rfl).subB (lo := pos) (hi := mb.length) (by omega) (Nat.le_refl _); rw [List.take_length] at h9; exact h9) (by simp) (by omega)) ?_; clear hs; rintro _ w ⟨s1, s2, rfl, hs⟩; simp only [mfP, List.cons_append, List.nil_append] at hs; refine zA rfl (zA0 (v := .tuple _) rfl) ?_
    refine zA rfl (zAa (v := .int .i64 _) rfl rfl) ?_; refine zA rfl (zAa (v := .agg _) rfl rfl) ?_; refine zA rfl (zAa (v := .int .i64 _) rfl rfl) ?_; refine zA rfl (zAa (v := .nilIface) rfl rfl) ?_; refine zBd hs rfl ze41 ?_; clear hs; intro b8 w hs
    try simp only [List.set_cons_succ, List.set_cons_zero] at hs
    refine zA rfl (zA2 (v := .int .i64 _) rfl) ?_; refine zAn hs 0 rfl rfl rfl zEq rfl rfl ?_; clear hs; intro w hs
    try simp only [List.set_cons_succ, List.set_cons_zero] at hs
    refine zA rfl (zA2 (v := .int .i64 _) rfl) ?_; refine zA rfl (zA2 (v := .nilIface) rfl) ?_; refine zA4 ?_; refine zA6 ?_; refine zA6 ?_; refine zAy zBv (hs.drop 6) ?_; intro w tr hK; replace hs := tr _ hs; clear tr; refine zA5 0 rfl rfl (fun w hs => zA0 (v := .nilIface) rfl) hK ?_; refine zA5 1 rfl rfl (fun w hs => zBf rfl) hK ?_; refine zA5 2 rfl rfl (fun w hs => zA0 (v := .bool _) rfl) hK ?_; refine zAe 3 rfl rfl rfl rfl (rfl) (fun w hs => zA0 (v := .pointer (some _)) rfl) hK ?_; refine zAe 4 rfl rfl rfl rfl (rfl) (fun w hs => zA7 rfl) hK ?_; refine zAe 5 rfl rfl rfl rfl (rfl) (fun w hs => zA3 (o' := 3) zCf rfl sz2 rfl rfl rfl) hK ?_
    refine zAe 6 rfl rfl rfl rfl (rfl) (fun w hs => zA8 uz2 rfl rfl (hs.cellAt 3 rfl rfl)) hK ?_; refine zAe 7 rfl rfl rfl rfl (rfl) (fun w hs => zBn rfl rfl) hK ?_; refine zA5 8 rfl rfl (fun w hs => zAk (v := .bool _) rfl (rfl) rfl) hK ?_; refine zA5 9 rfl rfl (fun w hs => zA0 (v := .bool _) rfl) hK ?_; refine zAe 10 rfl rfl rfl rfl (decide_eq_false (by omega)) (fun w hs => zA0 (v := .int .i64 _) rfl) hK ?_; refine zAe 11 rfl rfl rfl rfl (decide_eq_false (by omega)) (fun w hs => zA0 (v := .pointer (some _)) rfl) hK ?_; refine zAe 12 rfl rfl rfl rfl (decide_eq_false (by omega)) (fun w hs => zA7 rfl) hK ?_
    refine zAe 13 rfl rfl rfl rfl (decide_eq_false (by omega)) (fun w hs => zA3 (o' := 3) zCf rfl sz2 rfl rfl rfl) hK ?_; refine zAe 14 rfl rfl rfl rfl (decide_eq_false (by omega)) (fun w hs => zA8 uz2 rfl rfl (hs.cellAt 3 rfl rfl)) hK ?_; refine zAe 15 rfl rfl rfl rfl (decide_eq_false (by omega)) (fun w hs => zAs rfl rfl (c := ((q + 1 : Nat) : Int)) (by omega) (inI (by omega) (by omega))) hK ?_; refine zAe 16 rfl rfl rfl rfl (decide_eq_false (by omega)) (fun w hs => zDh rfl rfl) hK ?_; refine zA5 17 rfl rfl (fun w hs => zAk (v := .bool _) rfl (decide_eq_false (by omega)) rfl) hK ?_; refine zA5 18 rfl rfl (fun w hs => zA0 (v := .bool _) rfl) hK ?_
    refine zAd 19 rfl rfl rfl rfl ((by first | (rw [decide_eq_false (show ¬ ((s : Nat) : Int) = ((q + 1 : Nat) : Int) by omega)]; rfl) | rw [decide_eq_false (show ¬ ((s : Nat) : Int) = ((q + 1 : Nat) : Int) by omega)])) hK ?_; refine zAd 20 rfl rfl rfl rfl ((by first | (rw [decide_eq_false (show ¬ ((s : Nat) : Int) = ((q + 1 : Nat) : Int) by omega)]; rfl) | rw [decide_eq_false (show ¬ ((s : Nat) : Int) = ((q + 1 : Nat) : Int) by omega)])) hK ?_; refine zAd 21 rfl rfl rfl rfl ((by first | (rw [decide_eq_false (show ¬ ((s : Nat) : Int) = ((q + 1 : Nat) : Int) by omega)]; rfl) | rw [decide_eq_false (show ¬ ((s : Nat) : Int) = ((q + 1 : Nat) : Int) by omega)])) hK ?_
    refine zAd 22 rfl rfl rfl rfl ((by first | (rw [decide_eq_false (show ¬ ((s : Nat) : Int) = ((q + 1 : Nat) : Int) by omega)]; rfl) | rw [decide_eq_false (show ¬ ((s : Nat) : Int) = ((q + 1 : Nat) : Int) by omega)])) hK ?_; refine zAd 23 rfl rfl rfl rfl ((by first | (rw [decide_eq_false (show ¬ ((s : Nat) : Int) = ((q + 1 : Nat) : Int) by omega)]; rfl) | rw [decide_eq_false (show ¬ ((s : Nat) : Int) = ((q + 1 : Nat) : Int) by omega)])) hK ?_; refine zAd 24 rfl rfl rfl rfl ((by first | (rw [decide_eq_false (show ¬ ((s : Nat) : Int) = ((q + 1 : Nat) : Int) by omega)]; rfl) | rw [decide_eq_false (show ¬ ((s : Nat) : Int) = ((q + 1 : Nat) : Int) by omega)])) hK ?_
    refine zAd 25 rfl rfl rfl rfl ((by first | (rw [decide_eq_false (show ¬ ((s : Nat) : Int) = ((q + 1 : Nat) : Int) by omega)]; rfl) | rw [decide_eq_false (show ¬ ((s : Nat) : Int) = ((q + 1 : Nat) : Int) by omega)])) hK ?_
    first | refine zA5 26 rfl rfl (fun w hs => zAj (v := .bool _) rfl ((by first | (rw [decide_eq_false (show ¬ ((s : Nat) : Int) = ((q + 1 : Nat) : Int) by omega)]; rfl) | rw [decide_eq_false (show ¬ ((s : Nat) : Int) = ((q + 1 : Nat) : Int) by omega)])) rfl) hK ?_
    refine zAp (by kernel_rfl) ?_; clear hK; refine zBb rfl rfl ?_; refine zBg rfl ?_; refine zA6 ?_; refine zA6 ?_
    have e5 : c = cc := by omega
    subst e5
    have e6 : n = pos := by omega
    subst e6; have h9 : Mem g w (lgP p d ev pv q c n :: own (.slice a18 mb.length c18) (zAm mb) :: zBz d dk :: zD1 pv V :: L) := hs.tail.tail.tail; replace hs := h9; clear h9; refine zA1 ?_; refine zA rfl (zA0 (v := .pointer (some _)) rfl) ?_; refine zA rfl (zA7 rfl) ?_; refine zA rfl (zA3 (o' := 5) zCf rfl sz3 rfl rfl rfl) ?_; refine zA rfl (zA8 uz3 rfl rfl (hs.cellAt 0 rfl rfl)) ?_; refine zA rfl (zA0 (v := .int .i64 _) rfl) ?_; refine zA rfl (zBn rfl rfl) ?_; refine zA4 ?_; refine zB8 rfl ?_ ?_
    ·
     intro h95; have g95 := of_decide_eq_true h95; refine zA6 (zA1 ?_); refine zA rfl (zA2 (v := .nilIface) rfl) ?_; refine zA4 ?_; refine zAg ?_; refine zBl (v := .nilIface) rfl rfl ?_; exact ⟨_, rfl, rfl, dk, ha, rfl, by omega, by rw [List.take_of_length_le (by omega), zDb hf]; exact hI, hs.arr [0, 3, 2] 4 (by decide)⟩
    ·
     intro h95; have g95 := of_decide_eq_false h95; obtain ⟨kc, dc, hcut, hcr, hcc, hccase⟩ := hI.cut zCu hf (m := n) (by omega); obtain ⟨rfl, hup2, har2, hI4⟩ := hccase.resolve_right (fun h => h.2.2.1 ha); refine zAf ?_; refine zA6 ?_; refine zA6 ?_; refine zAy zBv (hs.drop 2) ?_; intro w tr hK; replace hs := tr _ hs; clear tr; refine zA5 0 rfl rfl (fun w hs => zA0 (v := .pointer (some _)) rfl) hK ?_; refine zA5 1 rfl rfl (fun w hs => zA7 rfl) hK ?_; refine zA5 2 rfl rfl (fun w hs => zA3 (o' := 0) zCf rfl sz25 rfl rfl rfl) hK ?_; refine zA5 3 rfl rfl (fun w hs => zA8 uz25 rfl rfl (hs.cellAt 0 rfl rfl)) hK ?_; refine zA5 4 rfl rfl (fun w hs => zA0 (v := .pointer (some _)) rfl) hK ?_
     refine zA5 5 rfl rfl (fun w hs => zA7 rfl) hK ?_; refine zA5 6 rfl rfl (fun w hs => zA3 (o' := 5) zCf rfl sz3 rfl rfl rfl) hK ?_; refine zA5 7 rfl rfl (fun w hs => zA8 uz3 rfl rfl (hs.cellAt 0 rfl rfl)) hK ?_; refine zA9 [8] ?_; refine ⟨⟨_, rfl, ?_⟩, trivial⟩; refine zAb rfl en18 (cut_sl hM.toK (hs.arr [2, 0, 1, 3] 4 (by decide)) (by omega) mtN (m := ((n : Nat) : Int)) (inI (by omega) (by omega)) hcut) ?_; clear hs; rintro _ w ⟨rfl, hs⟩; clear hK; have hK := hs.tail; refine zA4 ⟨hK, ?_⟩; refine zA5 9 rfl rfl (fun w hs => zA2 (v := zAq ad _) rfl) hK ?_; refine zAp (by kernel_rfl) ?_; clear hK; refine zA6 (zA1 ?_); refine zA rfl (zA0 (v := zAq ad _) rfl) ?_
     refine zA rfl (zAt (ad := ad) rfl) ?_; refine zA4 ?_; refine zAx rfl (rfl) ?_; refine zAf ?_; refine zA6 ?_; have hI5 := hI4 (hs.openD).1; obtain ⟨ds, hsy, hsr, hsa, hsc, hI6⟩ := hI5.sync (har2 ha) zCu (zBu _ _ _); refine zA1 ?_; refine zA rfl (zA0 (v := .pointer (some _)) rfl) ?_; refine zA rfl (zA7 rfl) ?_; refine zA rfl (zA3 (o' := 0) zCf rfl sz25 rfl rfl rfl) ?_; refine zA rfl (zA8 uz25 rfl rfl (hs.cellAt 1 rfl rfl)) ?_; refine zAb rfl en39 (zFs hM.toK hs (by omega) mtN hsy) ?_; clear hs; rintro _ w ⟨rfl, hs⟩; refine zA rfl (zA2 (v := zAq ad _) rfl) ?_; refine zA4 ?_; refine zAg ?_; refine zBl (v := zAq ad _) rfl rfl ?_
     exact ⟨_, rfl, zB6 ad, ds, hsa, hsr.trans hcr, by omega, hI6 (hs.openD).1, hs.arr [1, 3, 0] 4 (by decide)⟩
   ·
    refine zA1 ?_; refine zA rfl (zA0 (v := .slice _ _ _) rfl) ?_; refine zA rfl (zA0 (v := .pointer (some _)) rfl) ?_; refine zA rfl (zA7 rfl) ?_; refine zA rfl (zA3 (o' := 5) zCf rfl sz3 rfl rfl rfl) ?_; refine zA rfl (zA8 uz3 rfl rfl (hs.cellAt 0 rfl rfl)) ?_; refine zA rfl (zC2 zC0 sz5 rfl rfl (lo := pos) rfl (by omega)) ?_; refine zAb rfl en77 (hr.calls hM.toP hM.toW hV hs (by have h9 := (hs.rdOwn 1 rfl).subB (lo := pos) (hi := mb.length) (by omega) (Nat.le_refl _); rw [List.take_length] at h9; exact h9) (by simp) (by omega)) ?_; clear hs; rintro _ w ⟨s1, s2, rfl, hs⟩; simp only [mfP, List.cons_append, List.nil_append] at hs; refine zA rfl (zA0 (v := .tuple _) rfl) ?_
    refine zA rfl (zAa (v := .int .i64 _) rfl rfl) ?_; refine zA rfl (zAa (v := .agg _) rfl rfl) ?_; refine zA rfl (zAa (v := .int .i64 _) rfl rfl) ?_; refine zA rfl (zAa (v := .nilIface) rfl rfl) ?_; refine zBd hs rfl ze41 ?_; clear hs; intro b8 w hs
    try simp only [List.set_cons_succ, List.set_cons_zero] at hs
    refine zA rfl (zA2 (v := .int .i64 _) rfl) ?_; refine zAn hs 0 rfl rfl rfl zEq rfl rfl ?_; clear hs; intro w hs
    try simp only [List.set_cons_succ, List.set_cons_zero] at hs
    refine zA rfl (zA2 (v := .int .i64 _) rfl) ?_; refine zA rfl (zA2 (v := .nilIface) rfl) ?_; refine zA4 ?_; refine zA6 ?_; refine zA6 ?_; refine zAy zBv (hs.drop 6) ?_; intro w tr hK; replace hs := tr _ hs; clear tr; refine zA5 0 rfl rfl (fun w hs => zA0 (v := .nilIface) rfl) hK ?_; refine zA5 1 rfl rfl (fun w hs => zBf rfl) hK ?_; refine zA5 2 rfl rfl (fun w hs => zA0 (v := .bool _) rfl) hK ?_; refine zAe 3 rfl rfl rfl rfl (rfl) (fun w hs => zA0 (v := .pointer (some _)) rfl) hK ?_; refine zAe 4 rfl rfl rfl rfl (rfl) (fun w hs => zA7 rfl) hK ?_; refine zAe 5 rfl rfl rfl rfl (rfl) (fun w hs => zA3 (o' := 3) zCf rfl sz2 rfl rfl rfl) hK ?_
    refine zAe 6 rfl rfl rfl rfl (rfl) (fun w hs => zA8 uz2 rfl rfl (hs.cellAt 3 rfl rfl)) hK ?_; refine zAe 7 rfl rfl rfl rfl (rfl) (fun w hs => zBn rfl rfl) hK ?_; refine zA5 8 rfl rfl (fun w hs => zAk (v := .bool _) rfl (rfl) rfl) hK ?_; refine zA5 9 rfl rfl (fun w hs => zA0 (v := .bool _) rfl) hK ?_; refine zAe 10 rfl rfl rfl rfl (decide_eq_false (by omega)) (fun w hs => zA0 (v := .int .i64 _) rfl) hK ?_; refine zAe 11 rfl rfl rfl rfl (decide_eq_false (by omega)) (fun w hs => zA0 (v := .pointer (some _)) rfl) hK ?_; refine zAe 12 rfl rfl rfl rfl (decide_eq_false (by omega)) (fun w hs => zA7 rfl) hK ?_
    refine zAe 13 rfl rfl rfl rfl (decide_eq_false (by omega)) (fun w hs => zA3 (o' := 3) zCf rfl sz2 rfl rfl rfl) hK ?_; refine zAe 14 rfl rfl rfl rfl (decide_eq_false (by omega)) (fun w hs => zA8 uz2 rfl rfl (hs.cellAt 3 rfl rfl)) hK ?_; refine zAe 15 rfl rfl rfl rfl (decide_eq_false (by omega)) (fun w hs => zAs rfl rfl (c := ((q + 1 : Nat) : Int)) (by omega) (inI (by omega) (by omega))) hK ?_; refine zAe 16 rfl rfl rfl rfl (decide_eq_false (by omega)) (fun w hs => zDh rfl rfl) hK ?_; refine zA5 17 rfl rfl (fun w hs => zAk (v := .bool _) rfl (decide_eq_false (by omega)) rfl) hK ?_; refine zA5 18 rfl rfl (fun w hs => zA0 (v := .bool _) rfl) hK ?_
    refine zAe 19 rfl rfl rfl rfl ((by rw [decide_eq_true rfl]; rfl)) (fun w hs => zA0 (v := .pointer (some _)) rfl) hK ?_; refine zAe 20 rfl rfl rfl rfl ((by rw [decide_eq_true rfl]; rfl)) (fun w hs => zA7 rfl) hK ?_; refine zAe 21 rfl rfl rfl rfl ((by rw [decide_eq_true rfl]; rfl)) (fun w hs => zA3 (o' := 2) zCf rfl sz33 rfl rfl rfl) hK ?_; refine zAe 22 rfl rfl rfl rfl ((by rw [decide_eq_true rfl]; rfl)) (fun w hs => zA8 uz33 rfl rfl (hs.cellAt 3 rfl rfl)) hK ?_; refine zAe 23 rfl rfl rfl rfl ((by rw [decide_eq_true rfl]; rfl)) (fun w hs => zBc hs 0 rfl zEa zEq rfl) hK ?_; refine zA9 [24] ?_; refine ⟨⟨_, rfl, ?_⟩, trivial⟩; refine zAi rfl rfl ((by rw [decide_eq_true rfl]; rfl)) ?_
    refine zAb rfl en14 (zF0 hV (hs.arr [6, 0, 1, 2, 3, 4, 5] 7 (by decide)) k (x := x) (e := s1) (o := s2) (MfR.own 1 2 rfl rfl) (by have := mf_len (x := x) (by rw [(hr.fine _ _ _ rfl).1.1]); omega)) ?_; clear hs; rintro _ w ⟨eb, rfl, hs⟩; clear hK; have hK := hs.tail.tail; refine zA4 ⟨hK, ?_⟩; refine @aw_takeOn _ _ _ _ _ _ _ _ _ _ _ _ _ _ 25 _ _ _ _ _ rfl (by kernel_rfl) (by kernel_rfl) (by kernel_rfl) rfl rfl rfl (by simp) (fun w hs => zF7 (.inr hba) rfl) hK ?_; refine zA5 26 rfl rfl (fun w hs => zAk (v := .bool _) rfl ((by rw [decide_eq_true rfl]; rfl)) rfl) hK ?_; refine zAp (by kernel_rfl) ?_; clear hK; refine zBb rfl ((by simp [hba])) ?_; refine zBg rfl ?_; refine zA6 ?_
    refine zA6 ?_
    have e5 : c = cc := by omega
    subst e5
    have e6 : n = pos := by omega
    subst e6; rw [Vw.apply_ne hba] at hs; have h9 : Mem g w (lgP p d ev pv q c n :: own (.slice a18 mb.length c18) (zAm mb) :: zBz d dk :: zD1 pv V :: L) := hs.arr [5, 6, 7, 1] 8 (by decide); replace hs := h9; clear h9; refine zA1 ?_; refine zA rfl (zA0 (v := .pointer (some _)) rfl) ?_; refine zA rfl (zA7 rfl) ?_; refine zA rfl (zA3 (o' := 5) zCf rfl sz3 rfl rfl rfl) ?_; refine zA rfl (zA8 uz3 rfl rfl (hs.cellAt 0 rfl rfl)) ?_; refine zA rfl (zA0 (v := .int .i64 _) rfl) ?_; refine zA rfl (zBn rfl rfl) ?_; refine zA4 ?_; refine zB8 rfl ?_ ?_
    ·
     intro h95; have g95 := of_decide_eq_true h95; refine zA6 (zA1 ?_); refine zA rfl (zA2 (v := .nilIface) rfl) ?_; refine zA4 ?_; refine zAg ?_; refine zBl (v := .nilIface) rfl rfl ?_; exact ⟨_, rfl, rfl, dk, ha, rfl, by omega, by rw [List.take_of_length_le (by omega), zDb hf]; exact hI, hs.arr [0, 3, 2] 4 (by decide)⟩
    ·
     intro h95; have g95 := of_decide_eq_false h95; obtain ⟨kc, dc, hcut, hcr, hcc, hccase⟩ := hI.cut zCu hf (m := n) (by omega); obtain ⟨rfl, hup2, har2, hI4⟩ := hccase.resolve_right (fun h => h.2.2.1 ha); refine zAf ?_; refine zA6 ?_; refine zA6 ?_; refine zAy zBv (hs.drop 2) ?_; intro w tr hK; replace hs := tr _ hs; clear tr; refine zA5 0 rfl rfl (fun w hs => zA0 (v := .pointer (some _)) rfl) hK ?_; refine zA5 1 rfl rfl (fun w hs => zA7 rfl) hK ?_; refine zA5 2 rfl rfl (fun w hs => zA3 (o' := 0) zCf rfl sz25 rfl rfl rfl) hK ?_; refine zA5 3 rfl rfl (fun w hs => zA8 uz25 rfl rfl (hs.cellAt 0 rfl rfl)) hK ?_; refine zA5 4 rfl rfl (fun w hs => zA0 (v := .pointer (some _)) rfl) hK ?_
     refine zA5 5 rfl rfl (fun w hs => zA7 rfl) hK ?_; refine zA5 6 rfl rfl (fun w hs => zA3 (o' := 5) zCf rfl sz3 rfl rfl rfl) hK ?_; refine zA5 7 rfl rfl (fun w hs => zA8 uz3 rfl rfl (hs.cellAt 0 rfl rfl)) hK ?_; refine zA9 [8] ?_; refine ⟨⟨_, rfl, ?_⟩, trivial⟩; refine zAb rfl en18 (cut_sl hM.toK (hs.arr [2, 0, 1, 3] 4 (by decide)) (by omega) mtN (m := ((n : Nat) : Int)) (inI (by omega) (by omega)) hcut) ?_; clear hs; rintro _ w ⟨rfl, hs⟩; clear hK; have hK := hs.tail; refine zA4 ⟨hK, ?_⟩; refine zA5 9 rfl rfl (fun w hs => zA2 (v := zAq ad _) rfl) hK ?_; refine zAp (by kernel_rfl) ?_; clear hK; refine zA6 (zA1 ?_); refine zA rfl (zA0 (v := zAq ad _) rfl) ?_
     refine zA rfl (zAt (ad := ad) rfl) ?_; refine zA4 ?_; refine zAx rfl (rfl) ?_; refine zAf ?_; refine zA6 ?_; have hI5 := hI4 (hs.openD).1; obtain ⟨ds, hsy, hsr, hsa, hsc, hI6⟩ := hI5.sync (har2 ha) zCu (zBu _ _ _); refine zA1 ?_; refine zA rfl (zA0 (v := .pointer (some _)) rfl) ?_; refine zA rfl (zA7 rfl) ?_; refine zA rfl (zA3 (o' := 0) zCf rfl sz25 rfl rfl rfl) ?_; refine zA rfl (zA8 uz25 rfl rfl (hs.cellAt 1 rfl rfl)) ?_; refine zAb rfl en39 (zFs hM.toK hs (by omega) mtN hsy) ?_; clear hs; rintro _ w ⟨rfl, hs⟩; refine zA rfl (zA2 (v := zAq ad _) rfl) ?_; refine zA4 ?_; refine zAg ?_; refine zBl (v := zAq ad _) rfl rfl ?_
     exact ⟨_, rfl, zB6 ad, ds, hsa, hsr.trans hcr, by omega, hI6 (hs.openD).1, hs.arr [1, 3, 0] 4 (by decide)⟩
   ·
    refine zA1 ?_; refine zA rfl (zA0 (v := .slice _ _ _) rfl) ?_; refine zA rfl (zA0 (v := .pointer (some _)) rfl) ?_; refine zA rfl (zA7 rfl) ?_; refine zA rfl (zA3 (o' := 5) zCf rfl sz3 rfl rfl rfl) ?_; refine zA rfl (zA8 uz3 rfl rfl (hs.cellAt 0 rfl rfl)) ?_; refine zA rfl (zC2 zC0 sz5 rfl rfl (lo := pos) rfl (by omega)) ?_; refine zAb rfl en77 (hr.calls hM.toP hM.toW hV hs (by have h9 := (hs.rdOwn 1 rfl).subB (lo := pos) (hi := mb.length) (by omega) (Nat.le_refl _); rw [List.take_length] at h9; exact h9) (by simp) (by omega)) ?_; clear hs; rintro _ w ⟨s1, s2, rfl, hs⟩; simp only [mfP, List.cons_append, List.nil_append] at hs; refine zA rfl (zA0 (v := .tuple _) rfl) ?_
    refine zA rfl (zAa (v := .int .i64 _) rfl rfl) ?_; refine zA rfl (zAa (v := .agg _) rfl rfl) ?_; refine zA rfl (zAa (v := .int .i64 _) rfl rfl) ?_; refine zA rfl (zAa (v := .nilIface) rfl rfl) ?_; refine zBd hs rfl ze41 ?_; clear hs; intro b8 w hs
    try simp only [List.set_cons_succ, List.set_cons_zero] at hs
    refine zA rfl (zA2 (v := .int .i64 _) rfl) ?_; refine zAn hs 0 rfl rfl rfl zEq rfl rfl ?_; clear hs; intro w hs
    try simp only [List.set_cons_succ, List.set_cons_zero] at hs
    refine zA rfl (zA2 (v := .int .i64 _) rfl) ?_; refine zA rfl (zA2 (v := .nilIface) rfl) ?_; refine zA4 ?_; refine zA6 ?_; refine zA6 ?_; refine zAy zBv (hs.drop 6) ?_; intro w tr hK; replace hs := tr _ hs; clear tr; refine zA5 0 rfl rfl (fun w hs => zA0 (v := .nilIface) rfl) hK ?_; refine zA5 1 rfl rfl (fun w hs => zBf rfl) hK ?_; refine zA5 2 rfl rfl (fun w hs => zA0 (v := .bool _) rfl) hK ?_; refine zAe 3 rfl rfl rfl rfl (rfl) (fun w hs => zA0 (v := .pointer (some _)) rfl) hK ?_; refine zAe 4 rfl rfl rfl rfl (rfl) (fun w hs => zA7 rfl) hK ?_; refine zAe 5 rfl rfl rfl rfl (rfl) (fun w hs => zA3 (o' := 3) zCf rfl sz2 rfl rfl rfl) hK ?_
    refine zAe 6 rfl rfl rfl rfl (rfl) (fun w hs => zA8 uz2 rfl rfl (hs.cellAt 3 rfl rfl)) hK ?_; refine zAe 7 rfl rfl rfl rfl (rfl) (fun w hs => zBn rfl rfl) hK ?_; refine zA5 8 rfl rfl (fun w hs => zAk (v := .bool _) rfl (rfl) rfl) hK ?_; refine zA5 9 rfl rfl (fun w hs => zA0 (v := .bool _) rfl) hK ?_; refine zAe 10 rfl rfl rfl rfl (decide_eq_false (by omega)) (fun w hs => zA0 (v := .int .i64 _) rfl) hK ?_; refine zAe 11 rfl rfl rfl rfl (decide_eq_false (by omega)) (fun w hs => zA0 (v := .pointer (some _)) rfl) hK ?_; refine zAe 12 rfl rfl rfl rfl (decide_eq_false (by omega)) (fun w hs => zA7 rfl) hK ?_
    refine zAe 13 rfl rfl rfl rfl (decide_eq_false (by omega)) (fun w hs => zA3 (o' := 3) zCf rfl sz2 rfl rfl rfl) hK ?_; refine zAe 14 rfl rfl rfl rfl (decide_eq_false (by omega)) (fun w hs => zA8 uz2 rfl rfl (hs.cellAt 3 rfl rfl)) hK ?_; refine zAe 15 rfl rfl rfl rfl (decide_eq_false (by omega)) (fun w hs => zAs rfl rfl (c := ((qc + 1 : Nat) : Int)) (by omega) (inI (by omega) (by omega))) hK ?_; refine zAe 16 rfl rfl rfl rfl (decide_eq_false (by omega)) (fun w hs => zDh rfl rfl) hK ?_; refine zA5 17 rfl rfl (fun w hs => zAk (v := .bool _) rfl (decide_eq_false (by omega)) rfl) hK ?_; refine zA5 18 rfl rfl (fun w hs => zA0 (v := .bool _) rfl) hK ?_
    refine zAe 19 rfl rfl rfl rfl ((by rw [decide_eq_true rfl]; rfl)) (fun w hs => zA0 (v := .pointer (some _)) rfl) hK ?_; refine zAe 20 rfl rfl rfl rfl ((by rw [decide_eq_true rfl]; rfl)) (fun w hs => zA7 rfl) hK ?_; refine zAe 21 rfl rfl rfl rfl ((by rw [decide_eq_true rfl]; rfl)) (fun w hs => zA3 (o' := 2) zCf rfl sz33 rfl rfl rfl) hK ?_; refine zAe 22 rfl rfl rfl rfl ((by rw [decide_eq_true rfl]; rfl)) (fun w hs => zA8 uz33 rfl rfl (hs.cellAt 3 rfl rfl)) hK ?_; refine zAe 23 rfl rfl rfl rfl ((by rw [decide_eq_true rfl]; rfl)) (fun w hs => zBc hs 0 rfl zEa zEq rfl) hK ?_; refine zA9 [24] ?_; refine ⟨⟨_, rfl, ?_⟩, trivial⟩; refine zAi rfl rfl ((by rw [decide_eq_true rfl]; rfl)) ?_
    refine zAb rfl en14 (zF0 hV (hs.arr [6, 0, 1, 2, 3, 4, 5] 7 (by decide)) k (x := x) (e := s1) (o := s2) (MfR.own 1 2 rfl rfl) (by have := mf_len (x := x) (by rw [(hr.fine _ _ _ rfl).1.1]); omega)) ?_; clear hs; rintro _ w ⟨eb, rfl, hs⟩; rw [hap] at hs ⊢; replace hs := hs.tail; clear hK; have hK := hs.tail; refine zA4 ⟨hK, ?_⟩; refine zAe 25 rfl rfl rfl rfl ((by rw [decide_eq_true rfl]; rfl)) (fun w hs => zAt (ad := ad) rfl) hK ?_; refine zA5 26 rfl rfl (fun w hs => zAk (v := .bool _) rfl ((by rw [decide_eq_true rfl]; rfl)) rfl) hK ?_; refine zAp (by kernel_rfl) ?_; clear hK; refine zAx rfl (rfl) ?_; refine zAf ?_; refine zAy zBv (hs.drop 4) ?_; intro w tr hK; replace hs := tr _ hs
    clear tr; refine zA5 0 rfl rfl (fun w hs => zA0 (v := .pointer (some _)) rfl) hK ?_; refine zA5 1 rfl rfl (fun w hs => zA0 (v := .pointer (some _)) rfl) hK ?_; refine zA5 2 rfl rfl (fun w hs => zA0 (v := .pointer (some _)) rfl) hK ?_; refine zA5 3 rfl rfl (fun w hs => zA0 (v := .int .i64 _) rfl) hK ?_; refine zA5 4 rfl rfl (fun w hs => zA0 (v := .pointer (some _)) rfl) hK ?_; refine zA5 5 rfl rfl (fun w hs => zA7 rfl) hK ?_; refine zA5 6 rfl rfl (fun w hs => zA3 (o' := 4) zCf rfl sz3 rfl rfl rfl) hK ?_; refine zA5 9 rfl rfl (fun w hs => zA0 (v := .pointer (some _)) rfl) hK ?_; refine zA5 10 rfl rfl (fun w hs => zA7 rfl) hK ?_
    refine zA5 11 rfl rfl (fun w hs => zA3 (o' := 5) zCf rfl sz3 rfl rfl rfl) hK ?_; refine zA5 13 rfl rfl (fun w hs => zA0 (v := .int .i64 _) rfl) hK ?_; refine zA9 [7, 12] ?_; refine ⟨⟨_, rfl, ?_⟩, ⟨_, rfl, ?_⟩, trivial⟩
    ·
     refine zA rfl (zA8 uz3 rfl rfl (hs.cellAt 4 rfl rfl)) ?_; clear hK; have hK := hs.drop 4; refine zA4 ⟨hK, ?_⟩; refine zA5 8 rfl rfl (fun w hs => zAs rfl rfl (c := ((cc + 1 : Nat) : Int)) (by omega) (inI (by omega) (by omega))) hK ?_; refine zA9 [12] ?_; refine ⟨⟨_, rfl, ?_⟩, trivial⟩; refine zA rfl (zA8 uz3 rfl rfl (hs.cellAt 4 rfl rfl)) ?_; clear hK; have hK := hs.drop 4; refine zA4 ⟨hK, ?_⟩; refine zA5 14 rfl rfl (fun w hs => zAs rfl rfl (c := ((pos + z : Nat) : Int)) (by omega) (inI (by omega) (by omega))) hK ?_; refine zA5 15 rfl rfl (fun w hs => zA7 rfl) hK ?_; refine zA5 16 rfl rfl (fun w hs => zA3 (o' := 3) zCf rfl sz2 rfl rfl rfl) hK ?_; refine zA9 [17] ?_
     refine ⟨⟨_, rfl, ?_⟩, trivial⟩; refine zAr (v := .int .i64 _) hs 4 rfl sz2 rfl rfl rfl rfl ?_; clear hs; intro w hs
     try simp only [List.set_cons_succ, List.set_cons_zero] at hs
     clear hK; have hK := hs.drop 4; refine zA4 ⟨hK, ?_⟩; refine zA5 18 rfl rfl (fun w hs => zA7 rfl) hK ?_; refine zA5 19 rfl rfl (fun w hs => zA3 (o' := 4) zCf rfl sz3 rfl rfl rfl) hK ?_; refine zA9 [20] ?_; refine ⟨⟨_, rfl, ?_⟩, trivial⟩; refine zAr (v := .int .i64 _) hs 4 rfl sz3 rfl rfl rfl rfl ?_; clear hs; intro w hs
     try simp only [List.set_cons_succ, List.set_cons_zero] at hs
     clear hK; have hK := hs.drop 4; refine zA4 ⟨hK, ?_⟩; refine zA5 21 rfl rfl (fun w hs => zA7 rfl) hK ?_; refine zA5 22 rfl rfl (fun w hs => zA3 (o' := 5) zCf rfl sz3 rfl rfl rfl) hK ?_; refine zA9 [23] ?_; refine ⟨⟨_, rfl, ?_⟩, trivial⟩; refine zAr (v := .int .i64 _) hs 4 rfl sz3 rfl rfl rfl rfl ?_; clear hs; intro w hs
     try simp only [List.set_cons_succ, List.set_cons_zero] at hs
     clear hK; have hK := hs.drop 4; refine zA4 ⟨hK, ?_⟩; refine zAp (by kernel_rfl) ?_; clear hK; have hz := hr.fine _ _ _ rfl
     have hzl : z ≤ mb.length - pos := by have := hz.2.2.1; rw [List.length_drop] at this; exact this
     exact ⟨((W.apply k x).2, qc + 1, cc + 1, pos + z), by simp only; omega, ⟨⟨by simp only; omega, c2, n2, by simp only; rw [← List.drop_drop]; exact hE2, by simp only; omega, by simp only; omega⟩, hs.arr [4, 5, 6, 0] 7 (by decide)⟩, trivial, by repeat (first | exact Out.mix _ _ _ | refine Out.updo rfl ?_ | refine Out.upd rfl ?_ | refine Out.mixIn rfl ?_)⟩
    ·
     refine zA rfl (zA8 uz3 rfl rfl (hs.cellAt 4 rfl rfl)) ?_; clear hK; have hK := hs.drop 4; refine zA4 ⟨hK, ?_⟩; refine zA5 14 rfl rfl (fun w hs => zAs rfl rfl (c := ((pos + z : Nat) : Int)) (by omega) (inI (by omega) (by omega))) hK ?_; refine zA9 [7] ?_; refine ⟨⟨_, rfl, ?_⟩, trivial⟩; refine zA rfl (zA8 uz3 rfl rfl (hs.cellAt 4 rfl rfl)) ?_; clear hK; have hK := hs.drop 4; refine zA4 ⟨hK, ?_⟩; refine zA5 8 rfl rfl (fun w hs => zAs rfl rfl (c := ((cc + 1 : Nat) : Int)) (by omega) (inI (by omega) (by omega))) hK ?_; refine zA5 15 rfl rfl (fun w hs => zA7 rfl) hK ?_; refine zA5 16 rfl rfl (fun w hs => zA3 (o' := 3) zCf rfl sz2 rfl rfl rfl) hK ?_; refine zA9 [17] ?_
     refine ⟨⟨_, rfl, ?_⟩, trivial⟩; refine zAr (v := .int .i64 _) hs 4 rfl sz2 rfl rfl rfl rfl ?_; clear hs; intro w hs
     try simp only [List.set_cons_succ, List.set_cons_zero] at hs
     clear hK; have hK := hs.drop 4; refine zA4 ⟨hK, ?_⟩; refine zA5 18 rfl rfl (fun w hs => zA7 rfl) hK ?_; refine zA5 19 rfl rfl (fun w hs => zA3 (o' := 4) zCf rfl sz3 rfl rfl rfl) hK ?_; refine zA9 [20] ?_; refine ⟨⟨_, rfl, ?_⟩, trivial⟩; refine zAr (v := .int .i64 _) hs 4 rfl sz3 rfl rfl rfl rfl ?_; clear hs; intro w hs
     try simp only [List.set_cons_succ, List.set_cons_zero] at hs
     clear hK; have hK := hs.drop 4; refine zA4 ⟨hK, ?_⟩; refine zA5 21 rfl rfl (fun w hs => zA7 rfl) hK ?_; refine zA5 22 rfl rfl (fun w hs => zA3 (o' := 5) zCf rfl sz3 rfl rfl rfl) hK ?_; refine zA9 [23] ?_; refine ⟨⟨_, rfl, ?_⟩, trivial⟩; refine zAr (v := .int .i64 _) hs 4 rfl sz3 rfl rfl rfl rfl ?_; clear hs; intro w hs
     try simp only [List.set_cons_succ, List.set_cons_zero] at hs
     clear hK; have hK := hs.drop 4; refine zA4 ⟨hK, ?_⟩; refine zAp (by kernel_rfl) ?_; clear hK; have hz := hr.fine _ _ _ rfl
     have hzl : z ≤ mb.length - pos := by have := hz.2.2.1; rw [List.length_drop] at this; exact this
     exact ⟨((W.apply k x).2, qc + 1, cc + 1, pos + z), by simp only; omega, ⟨⟨by simp only; omega, c2, n2, by simp only; rw [← List.drop_drop]; exact hE2, by simp only; omega, by simp only; omega⟩, hs.arr [4, 5, 6, 0] 7 (by decide)⟩, trivial, by repeat (first | exact Out.mix _ _ _ | refine Out.updo rfl ?_ | refine Out.upd rfl ?_ | refine Out.mixIn rfl ?_)⟩
  ·
   intro h29; have g29 := of_decide_eq_false h29; refine zBg rfl ?_; refine zA6 ?_; refine zA6 ?_; have hdn : mb.drop pos = [] := List.drop_eq_nil_iff.2 (by omega); rw [hdn] at hE; obtain ⟨e1, e2, e3, e4⟩ := hE.of_nil; subst e1; subst e2; subst e3; subst e4
   have e5 : c = cc := by omega
   subst e5
   have e6 : n = pos := by omega
   subst e6; refine zA1 ?_; refine zA rfl (zA0 (v := .pointer (some _)) rfl) ?_; refine zA rfl (zA7 rfl) ?_; refine zA rfl (zA3 (o' := 5) zCf rfl sz3 rfl rfl rfl) ?_; refine zA rfl (zA8 uz3 rfl rfl (hs.cellAt 0 rfl rfl)) ?_; refine zA rfl (zA0 (v := .int .i64 _) rfl) ?_; refine zA rfl (zBn rfl rfl) ?_; refine zA4 ?_; refine zB8 rfl ?_ ?_
   ·
    intro h95; have g95 := of_decide_eq_true h95; refine zA6 (zA1 ?_); refine zA rfl (zA2 (v := .nilIface) rfl) ?_; refine zA4 ?_; refine zAg ?_; refine zBl (v := .nilIface) rfl rfl ?_; exact ⟨_, rfl, rfl, dk, ha, rfl, by omega, by rw [List.take_of_length_le (by omega), zDb hf]; exact hI, hs.arr [0, 3, 2] 4 (by decide)⟩
   ·
    intro h95; have g95 := of_decide_eq_false h95; obtain ⟨kc, dc, hcut, hcr, hcc, hccase⟩ := hI.cut zCu hf (m := n) (by omega); obtain ⟨rfl, hup2, har2, hI4⟩ := hccase.resolve_right (fun h => h.2.2.1 ha); refine zAf ?_; refine zA6 ?_; refine zA6 ?_; refine zAy zBv (hs.drop 2) ?_; intro w tr hK; replace hs := tr _ hs; clear tr; refine zA5 0 rfl rfl (fun w hs => zA0 (v := .pointer (some _)) rfl) hK ?_; refine zA5 1 rfl rfl (fun w hs => zA7 rfl) hK ?_; refine zA5 2 rfl rfl (fun w hs => zA3 (o' := 0) zCf rfl sz25 rfl rfl rfl) hK ?_; refine zA5 3 rfl rfl (fun w hs => zA8 uz25 rfl rfl (hs.cellAt 0 rfl rfl)) hK ?_; refine zA5 4 rfl rfl (fun w hs => zA0 (v := .pointer (some _)) rfl) hK ?_
    refine zA5 5 rfl rfl (fun w hs => zA7 rfl) hK ?_; refine zA5 6 rfl rfl (fun w hs => zA3 (o' := 5) zCf rfl sz3 rfl rfl rfl) hK ?_; refine zA5 7 rfl rfl (fun w hs => zA8 uz3 rfl rfl (hs.cellAt 0 rfl rfl)) hK ?_; refine zA9 [8] ?_; refine ⟨⟨_, rfl, ?_⟩, trivial⟩; refine zAb rfl en18 (cut_sl hM.toK (hs.arr [2, 0, 1, 3] 4 (by decide)) (by omega) mtN (m := ((n : Nat) : Int)) (inI (by omega) (by omega)) hcut) ?_; clear hs; rintro _ w ⟨rfl, hs⟩; clear hK; have hK := hs.tail; refine zA4 ⟨hK, ?_⟩; refine zA5 9 rfl rfl (fun w hs => zA2 (v := zAq ad _) rfl) hK ?_; refine zAp (by kernel_rfl) ?_; clear hK; refine zA6 (zA1 ?_); refine zA rfl (zA0 (v := zAq ad _) rfl) ?_
    refine zA rfl (zAt (ad := ad) rfl) ?_; refine zA4 ?_; refine zAx rfl (rfl) ?_; refine zAf ?_; refine zA6 ?_; have hI5 := hI4 (hs.openD).1; obtain ⟨ds, hsy, hsr, hsa, hsc, hI6⟩ := hI5.sync (har2 ha) zCu (zBu _ _ _); refine zA1 ?_; refine zA rfl (zA0 (v := .pointer (some _)) rfl) ?_; refine zA rfl (zA7 rfl) ?_; refine zA rfl (zA3 (o' := 0) zCf rfl sz25 rfl rfl rfl) ?_; refine zA rfl (zA8 uz25 rfl rfl (hs.cellAt 1 rfl rfl)) ?_; refine zAb rfl en39 (zFs hM.toK hs (by omega) mtN hsy) ?_; clear hs; rintro _ w ⟨rfl, hs⟩; refine zA rfl (zA2 (v := zAq ad _) rfl) ?_; refine zA4 ?_; refine zAg ?_; refine zBl (v := zAq ad _) rfl rfl ?_
    exact ⟨_, rfl, zB6 ad, ds, hsa, hsr.trans hcr, by omega, hI6 (hs.openD).1, hs.arr [1, 3, 0] 4 (by decide)⟩
end Go.Proofs.YtdkgdjnbpjjfmaaGreatDoor
namespace Go.Proofs.YtdkgdjnbpjjfmaaGreatDoor
set_option linter.all false
open Go.RowKit
attribute [local irreducible] zAq eV
variable {g w : World} {L M : List HP} {ad : Nat → Addr} {p d pv ev : Nat} {dk : Dk} {f : ByteArray → Option (List UInt8)} {V U : Vw} {q r c n : Nat} {b mb : List UInt8}

set_option maxHeartbeats 1000000 in
theorem openM_sl (hM : ErrM ad g) (hs : Mem g w (zBz d dk :: L)) (hI : LgI f dk) (ha : dk.armed = 0) (hcl : dk.calls < 800000) (hev : 1 ≤ ev ∧ ev ≤ 4096) {V0 : Vw} {q0 : Nat} (hSn : Snp f V0 q0) (ho : V0.ok) (hu : V0.sums) (hl : V0.length ≤ 100) (hf : f mtN = some mb ∨ f mtN = none ∧ mb = []) (hml : mb.length ≤ 1000000) (hent : Ent V0 q0 mb V q c n) (hq : q < 4611686018427387904) :
    Calls Tryz.prog 10 #[.pointer (some ⟨d, 0, none⟩), .int .i64 (ev : Nat)] w (Ret fun v w' => ∃ p dk2, v = .tuple #[.pointer (some ⟨p, 0, none⟩), .nilIface] ∧ dk2.armed = 0 ∧ dk2.room = dk.room ∧ dk2.calls ≤ dk.calls + 4 ∧ LgI (zDq f mtN (mb.take n)) dk2 ∧ Mem g w' (LogC p d ev V q c n :: zBz d dk2 :: L)) := by
  have hK := hM.toK; have hle := hent.le; have hll := hI.lenR zCu; refine zAo Tryz.func10 rfl rfl ?_
  skip
  refine zA6 (zA1 ?_); refine zA rfl (zA2 (v := .pointer none) rfl) ?_; refine zA rfl (zA2 (v := .nilIface) rfl) ?_; refine zA4 ?_; refine zA6 ?_; refine zA6 (zA1 ?_); refine zA rfl (zA0 (v := .int .i64 _) rfl) ?_; refine zA rfl (zB7 rfl rfl) ?_; refine zA rfl (zA0 (v := .bool _) rfl) ?_; refine zAi rfl rfl (decide_eq_false (by omega)) ?_; refine zA rfl (zA0 (v := .int .i64 _) rfl) ?_; refine zAi rfl rfl (decide_eq_false (by omega)) ?_; refine zA rfl (zBi rfl rfl) ?_; refine zA rfl (zAk (v := .bool _) rfl (decide_eq_false (by omega)) rfl) ?_; refine zA4 ?_; refine zAx rfl (decide_eq_false (by omega)) ?_; refine zAf ?_; refine zA6 (zA1 ?_); refine zA rfl (zA0 (v := .pointer (some _)) rfl) ?_
  refine zA rfl (zA0 (v := .int .i64 _) rfl) ?_; refine zAb rfl en11 (newq_sl hs) ?_; clear hs; rintro _ w ⟨pv, rfl, hs⟩; refine zA rfl (zC3 (cs := [.pointer (some ⟨d, 0, none⟩), .int .i64 (ev : Nat), .pointer (some ⟨pv, 0, none⟩), .int .i64 ((0 : Nat) : Int), .int .i64 ((0 : Nat) : Int), .int .i64 ((0 : Nat) : Int)]) zCf ze74 pl74 rfl) ?_; refine zCj (v := .agg _) hs rfl rfl ?_; clear hs; intro b21 w hs
  try simp only [List.set_cons_succ, List.set_cons_zero] at hs
  refine zA rfl (zA2 (v := .pointer (some _)) rfl) ?_; refine zA4 ?_; replace hs : Mem g w (lgP b21 d ev pv 0 0 0 :: zD1 pv [] :: zBz d dk :: L) := hs; refine zA6 ?_; refine zA6 ?_
  obtain ⟨hfn, rfl, rfl⟩ | hfn := hSn
  ·
   refine zA1 ?_; refine zA rfl (zA0 (v := .pointer (some _)) rfl) ?_; refine zAb rfl en33 (snapNo_sl hM hs (hI.pread_none mem_sn hfn)) ?_; clear hs; rintro _ w ⟨rfl, hs⟩; refine zA rfl (zA2 (v := .nilIface) rfl) ?_; refine zA4 (zA6 (zA1 ?_)); refine zA rfl (zA0 (v := .nilIface) rfl) ?_; refine zA rfl (zBf rfl) ?_; refine zA4 ?_; refine zAx rfl (rfl) ?_; refine zAf ?_; refine zA6 ?_
   obtain hfm | ⟨hfm, rfl⟩ := hf
   ·
    replace hll : dk.lenR mtN = (0, mb.length) := by rw [hll, hfm]; rfl
    refine zA1 ?_; refine zA rfl (zA0 (v := .pointer (some _)) rfl) ?_; refine zAb rfl en15 (len_sl hM.toK (hs.arr [2, 0, 1] 3 (by decide)) mtN hll) ?_; clear hs; rintro _ w ⟨rfl, hs⟩; refine zA rfl (zA0 (v := .tuple _) rfl) ?_; refine zA rfl (zAa (v := .int .i64 _) rfl rfl) ?_; refine zA rfl (zAa (v := zAq ad _) rfl rfl) ?_; refine zA rfl (zA2 (v := .int .i64 _) rfl) ?_; refine zA rfl (zA2 (v := zAq ad _) rfl) ?_; refine zA4 ?_; refine zA6 ?_; refine zA6 (zA1 ?_); refine zA rfl (zA0 (v := zAq ad _) rfl) ?_; refine zA rfl (zA8 zCq rfl rfl (hK.cellW hs 107 (by decide) rfl)) ?_; refine zA rfl (zEk (hK.atW hs) (by decide) (by decide) rfl rfl) ?_; refine zA4 ?_; refine zAx rfl (rfl) ?_
    refine zAf ?_; refine zA6 ?_; refine zA6 (zA1 ?_); refine zA rfl (zA0 (v := zAq ad _) rfl) ?_; refine zA rfl (zAt (ad := ad) rfl) ?_; refine zA4 ?_; refine zAx rfl (rfl) ?_; refine zAf ?_; refine zA6 ?_; refine zA6 (zA1 ?_); refine zA rfl (zA0 (v := .pointer (some _)) rfl) ?_; refine zA rfl (zA0 (v := .int .i64 _) rfl) ?_; refine zAb rfl en36 (entries_sl hM hI ha (by omega) hfm hml hent hq (hs.arr [1, 2, 0] 3 (by decide))) ?_; clear hs; rintro _ w ⟨rfl, d2, h1, h2, h3, h4, hs⟩; refine zA rfl (zA2 (v := .nilIface) rfl) ?_; refine zA4 (zA6 (zA1 ?_)); refine zA rfl (zA0 (v := .nilIface) rfl) ?_; refine zA rfl (zBf rfl) ?_; refine zA4 ?_; refine zAx rfl (rfl) ?_; refine zAf ?_
    refine zA6 (zA1 ?_); refine zA rfl (zA0 (v := .pointer (some _)) rfl) ?_; refine zA rfl (zA2 (v := .pointer (some _)) rfl) ?_; refine zA rfl (zA2 (v := .nilIface) rfl) ?_; refine zA4 ?_; refine zAg ?_; refine res2 (v := .pointer (some _)) (v2 := .nilIface) rfl rfl rfl ?_; exact ⟨_, rfl, _, d2, rfl, h1, h2, by omega, h4, hs.closeL⟩
   ·
    replace hll : dk.lenR mtN = (107, 0) := by rw [hll, hfm]; rfl
    obtain ⟨e1, e2, hcr, hsd, hroom, harm, hc1, hc2, hI2⟩ := hI.make ha zCu hfm mtN_valid; refine zA1 ?_; refine zA rfl (zA0 (v := .pointer (some _)) rfl) ?_; refine zAb rfl en15 (len_sl hM.toK (hs.arr [2, 0, 1] 3 (by decide)) mtN hll) ?_; clear hs; rintro _ w ⟨rfl, hs⟩; refine zA rfl (zA0 (v := .tuple _) rfl) ?_; refine zA rfl (zAa (v := .int .i64 _) rfl rfl) ?_; refine zA rfl (zAa (v := zAq ad _) rfl rfl) ?_; refine zA rfl (zA2 (v := .int .i64 _) rfl) ?_; refine zA rfl (zA2 (v := zAq ad _) rfl) ?_; refine zA4 ?_; refine zA6 ?_; refine zA6 (zA1 ?_); refine zA rfl (zA0 (v := zAq ad _) rfl) ?_; refine zA rfl (zA8 zCq rfl rfl (hK.cellW hs 107 (by decide) rfl)) ?_
    refine zA rfl (zEk (hK.atW hs) (by decide) (by decide) rfl rfl) ?_; refine zA4 ?_; refine zBb rfl (rfl) ?_; refine zA6 (zA1 ?_); refine zA rfl (zA0 (v := .pointer (some _)) rfl) ?_; refine zAb rfl en34 (create_sl hM.toK hs (by omega) mtN hcr) ?_; clear hs; rintro _ w ⟨rfl, hs⟩; refine zA rfl (zA2 (v := zAq ad _) rfl) ?_; refine zA4 (zA6 (zA1 ?_)); refine zA rfl (zA0 (v := zAq ad _) rfl) ?_; refine zA rfl (zD3 (ad := ad) rfl) ?_; refine zA4 ?_; refine zBb rfl (rfl) ?_; refine zA1 ?_; refine zA rfl (zA0 (v := .pointer (some _)) rfl) ?_; refine zAb rfl en35 (syncDir_sl hM.toK hs (by omega) hsd) ?_; clear hs; rintro _ w ⟨rfl, hs⟩; have hI3 := hI2 (hs.openD).1
    obtain ⟨e3, e4, e5, e6⟩ := hent.of_nil; subst e3; subst e4; subst e5; subst e6; refine zA rfl (zA2 (v := zAq ad _) rfl) ?_; refine zA4 ?_; refine zA6 ?_; refine zA6 (zA1 ?_); refine zA rfl (zA0 (v := zAq ad _) rfl) ?_; refine zA rfl (zAt (ad := ad) rfl) ?_; refine zA4 ?_; refine zAx rfl (rfl) ?_; refine zAf ?_; refine zA6 ?_; refine zA6 (zA1 ?_); refine zA rfl (zA0 (v := .pointer (some _)) rfl) ?_; refine zA rfl (zA0 (v := .int .i64 _) rfl) ?_; refine zAb rfl en36 (entries_sl (mb := []) hM hI3 harm (by omega) (zBu _ _ _) hml hent hq (hs.arr [1, 2, 0] 3 (by decide))) ?_; clear hs; rintro _ w ⟨rfl, d2, h1, h2, h3, h4, hs⟩; refine zA rfl (zA2 (v := .nilIface) rfl) ?_
    refine zA4 (zA6 (zA1 ?_)); refine zA rfl (zA0 (v := .nilIface) rfl) ?_; refine zA rfl (zBf rfl) ?_; refine zA4 ?_; refine zAx rfl (rfl) ?_; refine zAf ?_; refine zA6 (zA1 ?_); refine zA rfl (zA0 (v := .pointer (some _)) rfl) ?_; refine zA rfl (zA2 (v := .pointer (some _)) rfl) ?_; refine zA rfl (zA2 (v := .nilIface) rfl) ?_; refine zA4 ?_; refine zAg ?_; refine res2 (v := .pointer (some _)) (v2 := .nilIface) rfl rfl rfl ?_; exact ⟨_, rfl, _, d2, rfl, h1, h2.trans hroom, by omega, by rw [zEc] at h4; exact h4, hs.closeL⟩
  ·
   refine zA1 ?_; refine zA rfl (zA0 (v := .pointer (some _)) rfl) ?_; refine zAb rfl en33 (snap_sl hM hs (hI.pread_some mem_sn hfn) ho hu hl (by omega)) ?_; clear hs; rintro _ w ⟨rfl, pw, hs⟩; refine zA rfl (zA2 (v := .nilIface) rfl) ?_; refine zA4 (zA6 (zA1 ?_)); refine zA rfl (zA0 (v := .nilIface) rfl) ?_; refine zA rfl (zBf rfl) ?_; refine zA4 ?_; refine zAx rfl (rfl) ?_; refine zAf ?_; refine zA6 ?_
   obtain hfm | ⟨hfm, rfl⟩ := hf
   ·
    replace hll : dk.lenR mtN = (0, mb.length) := by rw [hll, hfm]; rfl
    refine zA1 ?_; refine zA rfl (zA0 (v := .pointer (some _)) rfl) ?_; refine zAb rfl en15 (len_sl hM.toK (hs.arr [2, 0, 1] 3 (by decide)) mtN hll) ?_; clear hs; rintro _ w ⟨rfl, hs⟩; refine zA rfl (zA0 (v := .tuple _) rfl) ?_; refine zA rfl (zAa (v := .int .i64 _) rfl rfl) ?_; refine zA rfl (zAa (v := zAq ad _) rfl rfl) ?_; refine zA rfl (zA2 (v := .int .i64 _) rfl) ?_; refine zA rfl (zA2 (v := zAq ad _) rfl) ?_; refine zA4 ?_; refine zA6 ?_; refine zA6 (zA1 ?_); refine zA rfl (zA0 (v := zAq ad _) rfl) ?_; refine zA rfl (zA8 zCq rfl rfl (hK.cellW hs 107 (by decide) rfl)) ?_; refine zA rfl (zEk (hK.atW hs) (by decide) (by decide) rfl rfl) ?_; refine zA4 ?_; refine zAx rfl (rfl) ?_
    refine zAf ?_; refine zA6 ?_; refine zA6 (zA1 ?_); refine zA rfl (zA0 (v := zAq ad _) rfl) ?_; refine zA rfl (zAt (ad := ad) rfl) ?_; refine zA4 ?_; refine zAx rfl (rfl) ?_; refine zAf ?_; refine zA6 ?_; refine zA6 (zA1 ?_); refine zA rfl (zA0 (v := .pointer (some _)) rfl) ?_; refine zA rfl (zA0 (v := .int .i64 _) rfl) ?_; refine zAb rfl en36 (entries_sl hM hI ha (by omega) hfm hml hent hq (hs.arr [1, 2, 0] 3 (by decide))) ?_; clear hs; rintro _ w ⟨rfl, d2, h1, h2, h3, h4, hs⟩; refine zA rfl (zA2 (v := .nilIface) rfl) ?_; refine zA4 (zA6 (zA1 ?_)); refine zA rfl (zA0 (v := .nilIface) rfl) ?_; refine zA rfl (zBf rfl) ?_; refine zA4 ?_; refine zAx rfl (rfl) ?_; refine zAf ?_
    refine zA6 (zA1 ?_); refine zA rfl (zA0 (v := .pointer (some _)) rfl) ?_; refine zA rfl (zA2 (v := .pointer (some _)) rfl) ?_; refine zA rfl (zA2 (v := .nilIface) rfl) ?_; refine zA4 ?_; refine zAg ?_; refine res2 (v := .pointer (some _)) (v2 := .nilIface) rfl rfl rfl ?_; exact ⟨_, rfl, _, d2, rfl, h1, h2, by omega, h4, hs.closeL⟩
   ·
    replace hll : dk.lenR mtN = (107, 0) := by rw [hll, hfm]; rfl
    obtain ⟨e1, e2, hcr, hsd, hroom, harm, hc1, hc2, hI2⟩ := hI.make ha zCu hfm mtN_valid; refine zA1 ?_; refine zA rfl (zA0 (v := .pointer (some _)) rfl) ?_; refine zAb rfl en15 (len_sl hM.toK (hs.arr [2, 0, 1] 3 (by decide)) mtN hll) ?_; clear hs; rintro _ w ⟨rfl, hs⟩; refine zA rfl (zA0 (v := .tuple _) rfl) ?_; refine zA rfl (zAa (v := .int .i64 _) rfl rfl) ?_; refine zA rfl (zAa (v := zAq ad _) rfl rfl) ?_; refine zA rfl (zA2 (v := .int .i64 _) rfl) ?_; refine zA rfl (zA2 (v := zAq ad _) rfl) ?_; refine zA4 ?_; refine zA6 ?_; refine zA6 (zA1 ?_); refine zA rfl (zA0 (v := zAq ad _) rfl) ?_; refine zA rfl (zA8 zCq rfl rfl (hK.cellW hs 107 (by decide) rfl)) ?_
    refine zA rfl (zEk (hK.atW hs) (by decide) (by decide) rfl rfl) ?_; refine zA4 ?_; refine zBb rfl (rfl) ?_; refine zA6 (zA1 ?_); refine zA rfl (zA0 (v := .pointer (some _)) rfl) ?_; refine zAb rfl en34 (create_sl hM.toK hs (by omega) mtN hcr) ?_; clear hs; rintro _ w ⟨rfl, hs⟩; refine zA rfl (zA2 (v := zAq ad _) rfl) ?_; refine zA4 (zA6 (zA1 ?_)); refine zA rfl (zA0 (v := zAq ad _) rfl) ?_; refine zA rfl (zD3 (ad := ad) rfl) ?_; refine zA4 ?_; refine zBb rfl (rfl) ?_; refine zA1 ?_; refine zA rfl (zA0 (v := .pointer (some _)) rfl) ?_; refine zAb rfl en35 (syncDir_sl hM.toK hs (by omega) hsd) ?_; clear hs; rintro _ w ⟨rfl, hs⟩; have hI3 := hI2 (hs.openD).1
    obtain ⟨e3, e4, e5, e6⟩ := hent.of_nil; subst e3; subst e4; subst e5; subst e6; refine zA rfl (zA2 (v := zAq ad _) rfl) ?_; refine zA4 ?_; refine zA6 ?_; refine zA6 (zA1 ?_); refine zA rfl (zA0 (v := zAq ad _) rfl) ?_; refine zA rfl (zAt (ad := ad) rfl) ?_; refine zA4 ?_; refine zAx rfl (rfl) ?_; refine zAf ?_; refine zA6 ?_; refine zA6 (zA1 ?_); refine zA rfl (zA0 (v := .pointer (some _)) rfl) ?_; refine zA rfl (zA0 (v := .int .i64 _) rfl) ?_; refine zAb rfl en36 (entries_sl (mb := []) hM hI3 harm (by omega) (zBu _ _ _) hml hent hq (hs.arr [1, 2, 0] 3 (by decide))) ?_; clear hs; rintro _ w ⟨rfl, d2, h1, h2, h3, h4, hs⟩; refine zA rfl (zA2 (v := .nilIface) rfl) ?_
    refine zA4 (zA6 (zA1 ?_)); refine zA rfl (zA0 (v := .nilIface) rfl) ?_; refine zA rfl (zBf rfl) ?_; refine zA4 ?_; refine zAx rfl (rfl) ?_; refine zAf ?_; refine zA6 (zA1 ?_); refine zA rfl (zA0 (v := .pointer (some _)) rfl) ?_; refine zA rfl (zA2 (v := .pointer (some _)) rfl) ?_; refine zA rfl (zA2 (v := .nilIface) rfl) ?_; refine zA4 ?_; refine zAg ?_; refine res2 (v := .pointer (some _)) (v2 := .nilIface) rfl rfl rfl ?_; exact ⟨_, rfl, _, d2, rfl, h1, h2.trans hroom, by omega, by rw [zEc] at h4; exact h4, hs.closeL⟩
/-! ### a snapshot -/
def SnapOut (f : ByteArray → Option (List UInt8)) (dk : Dk) (q : Nat) (V : Vw) (k : Nat) (dk2 : Dk) : Prop :=
  dk2.room = dk.room ∧ dk2.calls ≤ dk.calls + 7 ∧ (k = 0 ∧ dk2.down = false ∧ (dk.armed = 0 → dk2.armed = 0) ∧ LgI (zDq (zDq f snN (zBt (snapB q V))) mtN []) dk2 ∨
    k = 110 ∧ dk2.down = true ∧ dk.armed ≠ 0 ∧ ∀ picks, LgI f (dk2.crash picks) ∨ LgI (zDq f snN (zBt (snapB q V))) (dk2.crash picks))
theorem vw_len (ho : V.ok) (h : V.length ≤ 32) : (vwB V).length ≤ 192494 := by
  have h1 := items_len ho (zEm (zAl V)); have h2 := zCm V.length; have h3 : (vwB V).length = (vwBody V).length + 4 := zC1 _; rw [sortI_len, zAl, List.length_map] at h1; rw [h3]
  simp only [vwBody, List.length_append, zAl] at h1 ⊢; omega
set_option maxHeartbeats 1000000 in
theorem snapM_sl (hM : ErrM ad g) (hs : Mem g w (LogC p d ev V q c n :: zBz d dk :: L)) (hI : LgI f dk) (hf : f mtN = some mb) (hcl : dk.calls < 800000) (hr : 1000000 ≤ dk.room) (hu : V.sums) (hl : V.length ≤ 32) (hq : q < 4611686018427387904) :
    Calls Tryz.prog 23 #[.pointer (some ⟨p, 0, none⟩)] w (Ret fun v w' => ∃ k dk2, v = zAq ad k ∧ SnapOut f dk q V k dk2 ∧ Mem g w' (LogC p d ev V q (if k = 0 then 0 else c) (if k = 0 then 0 else n) :: zBz d dk2 :: L)) := by
  have hK := hM.toK; obtain ⟨pv, hs⟩ := hs.openL; have ho : V.ok := ((hs.arr [1, 0, 2] 3 (by decide)).openQ).1; have hvb := vw_len ho hl; have hql := zCm q; have hsl : (snapB q V).length = (zB4 q).length + (vwB V).length := List.length_append; obtain ⟨kw, dw, hw, hwr, hwc, hwcase⟩ := hI.write (b := snapB q V) mem_sn lgN_new snN_valid snN_valid2 (by omega) (by show 2 * 2 * 200000 + 200000 ≤ dk.room; omega); refine zAo Tryz.func23 rfl rfl ?_
  skip
  refine zA6 (zA1 ?_); refine zA rfl (zA2 (v := .nilIface) rfl) ?_; refine zA4 ?_; refine zA6 ?_; refine zA6 ?_; refine zAy zBv (hs.drop 2) ?_; intro w tr hK; replace hs := tr _ hs; clear tr; refine zA5 0 rfl rfl (fun w hs => zA0 (v := .pointer (some _)) rfl) hK ?_; refine zA5 1 rfl rfl (fun w hs => zA7 rfl) hK ?_; refine zA5 2 rfl rfl (fun w hs => zA3 (o' := 0) zCf rfl sz25 rfl rfl rfl) hK ?_; refine zA5 3 rfl rfl (fun w hs => zA8 uz25 rfl rfl (hs.cellAt 0 rfl rfl)) hK ?_; refine zA5 4 rfl rfl (fun w hs => zA0 (v := .pointer (some _)) rfl) hK ?_; refine zA5 5 rfl rfl (fun w hs => zA7 rfl) hK ?_; refine zA5 6 rfl rfl (fun w hs => zA3 (o' := 3) zCf rfl sz2 rfl rfl rfl) hK ?_
  refine zA5 7 rfl rfl (fun w hs => zA8 uz2 rfl rfl (hs.cellAt 0 rfl rfl)) hK ?_; refine zA5 8 rfl rfl (fun w hs => zAh uz2 zBj rfl (c := ((q : Nat) : Int)) (by rw [zB]; omega)) hK ?_; refine zA5 10 rfl rfl (fun w hs => zA0 (v := .pointer (some _)) rfl) hK ?_; refine zA5 11 rfl rfl (fun w hs => zA7 rfl) hK ?_; refine zA5 12 rfl rfl (fun w hs => zA3 (o' := 2) zCf rfl sz33 rfl rfl rfl) hK ?_; refine zA5 13 rfl rfl (fun w hs => zA8 uz33 rfl rfl (hs.cellAt 0 rfl rfl)) hK ?_; refine zA9 [9] ?_; refine ⟨⟨_, rfl, ?_⟩, trivial⟩; refine zAb rfl en52 (zE5 hs (lb := []) (n := q) Rd.nil rfl (by decide) (by omega)) ?_; clear hs; rintro _ w ⟨a14, c14, rfl, hs⟩; rw [List.nil_append] at hs ⊢; clear hK
  have hK := hs.tail.drop 2; refine zA4 ⟨hK, ?_⟩; refine zA9 [14] ?_; refine ⟨⟨_, rfl, ?_⟩, trivial⟩; refine zAb rfl en53 (bytesq_sl hM.toV (hs.arr [2, 0, 1, 3] 4 (by decide)) (by omega) hu) ?_; clear hs; rintro _ w ⟨a19, c19, rfl, hs⟩; clear hK; have hK := hs.arr [3, 1] 5 (by decide); refine zA4 ⟨hK, ?_⟩; refine zA9 [15] ?_; refine ⟨⟨_, rfl, ?_⟩, trivial⟩; refine zCh hs rfl 2 rfl zC0 in5 rfl rfl rfl (zC5 (P := Tryz.prog) zC0 ((Rd.own (l := zAm (vwB V)) 0 rfl).seq hs) (zBy _)) (by simp only [zAu]; omega) (by simp only [zAu]; omega) ?_; clear hs; intro a20 c20 w hs; simp only [List.set_cons_succ, List.set_cons_zero] at hs
  have e1 : zAm (zB4 q) ++ zAm (vwB V) = zAm (snapB q V) := (zCi _ _).symm
  have e2 : (zAm (zB4 q)).length + (zAm (vwB V)).length = (snapB q V).length := by simp only [zAu, hsl]
  rw [e2] at hs ⊢; rw [e1] at hs; clear hK; have hK := hs.arr [3, 1] 5 (by decide); refine zA4 ⟨hK, ?_⟩; refine zA9 [16] ?_; refine ⟨⟨_, rfl, ?_⟩, trivial⟩; refine zAb rfl en51 (write_sl hM.toK (by omega) (hs.arr [4, 0, 1, 2, 3] 5 (by decide)) snN (by decide) (Rd.own (l := zAm (snapB q V)) 2 rfl) rfl (by omega) hw) ?_; clear hs; rintro _ w ⟨rfl, hs⟩; clear hK; have hK := hs.arr [4, 2] 5 (by decide); refine zA4 ⟨hK, ?_⟩; refine zA5 17 rfl rfl (fun w hs => zA2 (v := zAq ad _) rfl) hK ?_; refine zAp (by kernel_rfl) ?_; clear hK; refine zA6 ?_
  obtain ⟨rfl, hup, har, hI2⟩ | ⟨rfl, hdn, har, hI2⟩ := hwcase
  ·
   refine zA1 ?_; refine zA rfl (zA0 (v := zAq ad _) rfl) ?_; refine zA rfl (zAt (ad := ad) rfl) ?_; refine zA4 ?_; refine zAx rfl (rfl) ?_; refine zAf ?_; refine zA6 ?_; refine zA6 ?_; have hI3 := hI2 (hs.openD).1; obtain ⟨kc, dc, hcut, hcr, hcc, hccase⟩ := hI3.cut zCu (v := mb) (by rw [zDc _ _ mt_sn]; exact hf) (m := 0) (Nat.zero_le _); refine zA1 ?_; refine zA rfl (zA0 (v := .pointer (some _)) rfl) ?_; refine zA rfl (zA7 rfl) ?_; refine zA rfl (zA3 (o' := 0) zCf rfl sz25 rfl rfl rfl) ?_; refine zA rfl (zA8 uz25 rfl rfl (hs.cellAt 4 rfl rfl)) ?_; refine zAb rfl en18 (cut_sl hM.toK hs (by omega) mtN (m := 0) (inI (by decide) (by decide)) hcut) ?_; clear hs; rintro _ w ⟨rfl, hs⟩
   refine zA rfl (zA2 (v := zAq ad _) rfl) ?_; refine zA4 ?_; refine zA6 ?_
   obtain ⟨rfl, hup2, har2, hI4⟩ | ⟨rfl, hdn2, har2, hI4⟩ := hccase
   ·
    refine zA1 ?_; refine zA rfl (zA0 (v := zAq ad _) rfl) ?_; refine zA rfl (zAt (ad := ad) rfl) ?_; refine zA4 ?_; refine zAx rfl (rfl) ?_; refine zAf ?_; refine zA6 (zA1 ?_); refine zA rfl (zA0 (v := .pointer (some _)) rfl) ?_; refine zA rfl (zA0 (v := .pointer (some _)) rfl) ?_; refine zA rfl (zA7 rfl) ?_; refine zA rfl (zA3 (o' := 4) zCf rfl sz3 rfl rfl rfl) ?_; refine zAr (v := .int .i64 _) hs 4 rfl sz3 rfl rfl rfl rfl ?_; clear hs; intro w hs
    try simp only [List.set_cons_succ, List.set_cons_zero] at hs
    refine zA rfl (zA7 rfl) ?_; refine zA rfl (zA3 (o' := 5) zCf rfl sz3 rfl rfl rfl) ?_; refine zAr (v := .int .i64 _) hs 4 rfl sz3 rfl rfl rfl rfl ?_; clear hs; intro w hs
    try simp only [List.set_cons_succ, List.set_cons_zero] at hs
    refine zA4 (zA6 (zA1 ?_)); refine zA rfl (zA2 (v := .nilIface) rfl) ?_; refine zA4 ?_; refine zAg ?_; refine zBl (v := .nilIface) rfl rfl ?_; exact ⟨_, rfl, 0, dc, (zB6 ad).symm, ⟨hcr.trans hwr, by omega, .inl ⟨rfl, hup2, fun e => har2 (har e), hI4 (hs.openD).1⟩⟩, Mem.closeL (hs.arr [4, 2, 0] 5 (by decide))⟩
   ·
    refine zA1 ?_; refine zA rfl (zA0 (v := zAq ad _) rfl) ?_; refine zA rfl (zAt (ad := ad) rfl) ?_; refine zA4 ?_; refine zBb rfl (rfl) ?_; refine zA6 (zA1 ?_); refine zA rfl (zA0 (v := zAq ad _) rfl) ?_; refine zA rfl (zA2 (v := zAq ad _) rfl) ?_; refine zA4 ?_; refine zAg ?_; refine zBl (v := zAq ad _) rfl rfl ?_; exact ⟨_, rfl, 110, dc, rfl, ⟨hcr.trans hwr, by omega, .inr ⟨rfl, hdn2, fun e => har2 (har e), fun picks => .inr (hI4 (hs.openD).1 picks)⟩⟩, Mem.closeL (hs.arr [4, 2, 0] 5 (by decide))⟩
  ·
   refine zA1 ?_; refine zA rfl (zA0 (v := zAq ad _) rfl) ?_; refine zA rfl (zAt (ad := ad) rfl) ?_; refine zA4 ?_; refine zBb rfl (rfl) ?_; refine zA6 (zA1 ?_); refine zA rfl (zA0 (v := zAq ad _) rfl) ?_; refine zA rfl (zA2 (v := zAq ad _) rfl) ?_; refine zA4 ?_; refine zAg ?_; refine zBl (v := zAq ad _) rfl rfl ?_; exact ⟨_, rfl, 110, dw, rfl, ⟨hwr, by omega, .inr ⟨rfl, hdn, har, hI2 (hs.openD).1⟩⟩, Mem.closeL (hs.arr [4, 2, 0] 5 (by decide))⟩
end Go.Proofs.YtdkgdjnbpjjfmaaGreatDoor
