/- The disk, over chunks: Create, Append, Cut, Sync, Rename, Remove, Used; what is told. -/
import Derived.Test.YtmnfehbnjgmgjaaDoorDa
namespace Go.Proofs.YtmnfehbnjgmgjaaDoor
set_option linter.all false
open Go.RowKit
attribute [local irreducible] errV
variable {g w : World} {L M : List HP} {ad : Nat → Addr} {p mn mk sc : Nat} {sa : Option Addr} {d : Dk} {ptr : List (Nat × Nat)}

/-- A new file is laid among the others. -/
theorem Mem.addFile {b : Nat} (ho : d.ok) (hs : Mem g w (cells b [.int .i64 ((d.files + 1 : Nat) : Int), .slice none 0 0, .int .i64 0] 115 :: (diskParts p { d with files := d.files + 1 } mn mk sa sc ptr ++ L))) : Mem g w (diskParts p d.addF mn mk sa sc (aput ptr (d.files + 1) b) ++ L) := by
  have h1 : Mem g w (flC b ⟨d.files + 1, [], 0⟩ :: (diskParts p { d with files := d.files + 1 } mn mk sa sc ptr ++ L)) :=
    Mem.closeF (f := ⟨d.files + 1, [], 0⟩) (a := none) (c := 0) ((hs.addE (own_nil _)).arr [1, 0] 2 (by decide))
  have h2 := Mem.famPut (R := flC) (k := d.files + 1) h1 4 rfl (fun _ h => h.elim)
  rw [aput_end (v := (⟨d.files + 1, [], 0⟩ : Fl)) ho.fresh] at h2
  have hf : ∀ l : List (ByteArray × Nat), (∀ x ∈ l, x.2 ∈ keysOf d.fs) → nmV (aput ptr (d.files + 1) b) l = nmV ptr l := fun l hl => nmV_more fun x hx e => ho.fresh (e ▸ hl x hx)
  have e1 := hf d.names ho.nin
  have e2 := hf d.kept ho.kin
  have e3 : d.changes.map (chgV (aput ptr (d.files + 1) b)) = d.changes.map (chgV ptr) := chgV_more fun c hc i hi e => ho.fresh (e ▸ ho.cin c hc i hi)
  show Mem g w ([cells p (diskL mn mk { d with files := d.files + 1 } sa sc) 110, mapS mn (nmV (aput ptr (d.files + 1) b) d.names), mapS mk (nmV (aput ptr (d.files + 1) b) d.kept), rowK 3 (.slice sa d.changes.length sc) (d.changes.map (chgV (aput ptr (d.files + 1) b))), famC flC (aput ptr (d.files + 1) b) (d.fs ++ [(d.files + 1, ⟨d.files + 1, [], 0⟩)])] ++ L)
  rw [e1, e2, e3]
  exact h2
theorem create_sl (hE : ErrK ad g) (hs : Mem g w (DiskC p d :: L)) (hc : d.calls < 1000000) (n : ByteArray) {k : Nat} {d2 : Dk} (hk : d.create n = (k, d2)) : Calls Tryd.prog 29 #[.pointer (some ⟨p, 0, none⟩), .string n] w (Ret fun v w' => v = errV ad k ∧ Mem g w' (DiskC p d2 :: L)) := by
  obtain ⟨ho, mn, mk, sa, sc, ptr, hs⟩ := hs.openD
  have hb := d.begin_same
  have hbc := d.begin_code
  have ho1 := ho.begin
  have hf1 := ho1.fcl
  have hk1 := ho1.kl
  cases hn : aget d.begin.2.names n with
  | none =>
    refine calls_cw Tryd.func29 rfl rfl ?_
    skip
    refine cw_seq ?_
    refine cw_region ?_
    first | refine lw_val rfl (run_assign (v := errV ad _) rfl) ?_ | refine lw_val rfl (run_assign (v := .nilIface) rfl) ?_ | refine lw_val rfl (run_assign (v := eV ad _ _) rfl) ?_ | refine lw_val rfl (run_assign (v := .iface _ (.pointer (some _))) rfl) ?_
    refine lw_nil ?_
    refine cw_seq ?_
    refine cw_seq ?_
    refine cw_region ?_
    first | refine lw_val rfl (run_move (v := .pointer (some _)) rfl) ?_ | refine lw_val rfl (run_move (v := .pointer none) rfl) ?_
    refine lw_call rfl en77 (begin_sl hE ho hs) ?_
    clear hs
    rintro _ w ⟨rfl, hs⟩
    first | refine lw_val rfl (run_assign (v := errV ad _) rfl) ?_ | refine lw_val rfl (run_assign (v := .nilIface) rfl) ?_ | refine lw_val rfl (run_assign (v := eV ad _ _) rfl) ?_ | refine lw_val rfl (run_assign (v := .iface _ (.pointer (some _))) rfl) ?_
    refine lw_nil ?_
    refine cw_seq ?_
    refine cw_region ?_
    first | refine lw_val rfl (run_move (v := errV ad _) rfl) ?_ | refine lw_val rfl (run_move (v := .nilIface) rfl) ?_ | refine lw_val rfl (run_move (v := eV ad _ _) rfl) ?_ | refine lw_val rfl (run_move (v := .iface _ (.pointer (some _))) rfl) ?_
    first | refine lw_val rfl (run_neerrn (ad := ad) rfl) ?_ | refine lw_val rfl (run_nenn rfl) ?_ | refine lw_val rfl (run_neE (ad := ad) rfl) ?_
    refine lw_nil ?_
    refine cw_if rfl ?_ ?_
    · intro h9
      have g9 := ne_t h9
      refine cw_seq ?_
      refine cw_region ?_
      first | refine lw_val rfl (run_move (v := errV ad _) rfl) ?_ | refine lw_val rfl (run_move (v := .nilIface) rfl) ?_ | refine lw_val rfl (run_move (v := eV ad _ _) rfl) ?_ | refine lw_val rfl (run_move (v := .iface _ (.pointer (some _))) rfl) ?_
      first | refine lw_val rfl (run_assign (v := errV ad _) rfl) ?_ | refine lw_val rfl (run_assign (v := .nilIface) rfl) ?_ | refine lw_val rfl (run_assign (v := eV ad _ _) rfl) ?_ | refine lw_val rfl (run_assign (v := .iface _ (.pointer (some _))) rfl) ?_
      refine lw_nil ?_
      refine cw_ret ?_
      first | refine res1 (v := errV ad _) rfl rfl ?_ | refine res1 (v := .nilIface) rfl rfl ?_ | refine res1 (v := eV ad _ _) rfl rfl ?_ | refine res1 (v := .iface _ (.pointer (some _))) rfl rfl ?_
      have hb1 : d.begin.1 ≠ 0 := by simpa using h9
      have e : d.create n = (110, d.begin.2) := by simp [Dk.create, hb1]
      rw [e] at hk
      cases hk
      rw [show d.begin.1 = 110 by omega]
      exact ⟨_, rfl, rfl, Mem.closeD ho1 hs⟩
    · intro h9
      have g9 := ne_f h9
      refine cw_skip ?_
      refine cw_seq ?_
      refine cw_block ?_
      refine cw_seq ?_
      refine cw_region ?_
      first | refine lw_val rfl (run_move (v := .string _) rfl) ?_
      refine lw_call rfl en70 (valid_sl hs n) ?_
      clear hs
      rintro _ w ⟨rfl, hs⟩
      refine lw_val rfl (run_not rfl) ?_
      first | refine lw_val rfl (run_assign (v := .bool _) rfl) ?_
      refine lw_nil ?_
      refine cw_if rfl ?_ ?_
      · intro h13
        replace h13 := not_b h13
        refine cw_seq ?_
        refine cw_region ?_
        refine lw_val rfl (run_load Tryd.underlying30 rfl rfl (hE.cellW hs 106 (by decide) rfl)) ?_
        first | refine lw_val rfl (run_assign (v := errV ad _) rfl) ?_ | refine lw_val rfl (run_assign (v := .nilIface) rfl) ?_ | refine lw_val rfl (run_assign (v := eV ad _ _) rfl) ?_ | refine lw_val rfl (run_assign (v := .iface _ (.pointer (some _))) rfl) ?_
        refine lw_nil ?_
        refine cw_ret ?_
        first | refine res1 (v := errV ad _) rfl rfl ?_ | refine res1 (v := .nilIface) rfl rfl ?_ | refine res1 (v := eV ad _ _) rfl rfl ?_ | refine res1 (v := .iface _ (.pointer (some _))) rfl rfl ?_
        have hb1 : d.begin.1 = 0 := by simpa using h9
        have e : d.create n = (106, d.begin.2) := by simp [Dk.create, hb1, h13]
        rw [e] at hk
        cases hk
        exact ⟨_, rfl, rfl, Mem.closeD ho1 hs⟩
      · intro h13
        replace h13 := not_c h13
        refine cw_seq ?_
        refine cw_region ?_
        first | refine lw_val rfl (run_move (v := .pointer (some _)) rfl) ?_ | refine lw_val rfl (run_move (v := .pointer none) rfl) ?_
        refine lw_val rfl (run_nilCheckP rfl) ?_
        first | refine lw_val rfl (run_fieldAddr (o' := 1) Tryd.underlying110 rfl sz107 rfl rfl rfl) ?_ | refine lw_val rfl (run_fieldAddr Tryd.underlying110 rfl sz107 rfl rfl rfl) ?_
        first | refine lw_val rfl (run_load Tryd.underlying107 rfl rfl (hs.cellAt 0 rfl rfl)) ?_ | refine lw_val rfl (run_load Tryd.underlying107 rfl rfl (hs.cellAt 1 rfl rfl)) ?_ | refine lw_val rfl (run_load Tryd.underlying107 rfl rfl (hs.cellAt 2 rfl rfl)) ?_ | refine lw_val rfl (run_load Tryd.underlying107 rfl rfl (hs.cellAt 3 rfl rfl)) ?_ | refine lw_val rfl (run_load Tryd.underlying107 rfl rfl (hs.cellAt 4 rfl rfl)) ?_ | refine lw_val rfl (run_load Tryd.underlying107 rfl rfl (hs.cellAt 5 rfl rfl)) ?_ | refine lw_val rfl (run_load Tryd.underlying107 rfl rfl (hs.cellAt 6 rfl rfl)) ?_ | refine lw_val rfl (run_load Tryd.underlying107 rfl rfl (hs.cellAt 7 rfl rfl)) ?_ | refine lw_val rfl (run_load Tryd.underlying107 rfl rfl (hs.cellAt 8 rfl rfl)) ?_ | refine lw_val rfl (run_load Tryd.underlying107 rfl rfl (hs.cellAt 9 rfl rfl)) ?_ | refine lw_val rfl (run_load Tryd.underlying107 rfl rfl (hs.cellAt 10 rfl rfl)) ?_ | refine lw_val rfl (run_load Tryd.underlying107 rfl rfl (hs.cellAt 11 rfl rfl)) ?_ | refine lw_val rfl (run_load Tryd.underlying107 rfl rfl (hs.cellAt 12 rfl rfl)) ?_ | refine lw_val rfl (run_load Tryd.underlying107 rfl rfl (hs.cellAt 13 rfl rfl)) ?_
        first | refine lw_val rfl (run_move (v := .string _) rfl) ?_
        first | refine lw_val rfl (run_lookup (hs.mapAt 0 rfl) strKind Tryd.underlying107 Tryd.underlying9 ze112 rfl rfl (o := none) (by rw [nmV_get, hn]; rfl)) ?_ | refine lw_val rfl (run_lookup (hs.mapAt 1 rfl) strKind Tryd.underlying107 Tryd.underlying9 ze112 rfl rfl (o := none) (by rw [nmV_get, hn]; rfl)) ?_ | refine lw_val rfl (run_lookup (hs.mapAt 2 rfl) strKind Tryd.underlying107 Tryd.underlying9 ze112 rfl rfl (o := none) (by rw [nmV_get, hn]; rfl)) ?_ | refine lw_val rfl (run_lookup (hs.mapAt 3 rfl) strKind Tryd.underlying107 Tryd.underlying9 ze112 rfl rfl (o := none) (by rw [nmV_get, hn]; rfl)) ?_ | refine lw_val rfl (run_lookup (hs.mapAt 4 rfl) strKind Tryd.underlying107 Tryd.underlying9 ze112 rfl rfl (o := none) (by rw [nmV_get, hn]; rfl)) ?_ | refine lw_val rfl (run_lookup (hs.mapAt 5 rfl) strKind Tryd.underlying107 Tryd.underlying9 ze112 rfl rfl (o := none) (by rw [nmV_get, hn]; rfl)) ?_ | refine lw_val rfl (run_lookup (hs.mapAt 6 rfl) strKind Tryd.underlying107 Tryd.underlying9 ze112 rfl rfl (o := none) (by rw [nmV_get, hn]; rfl)) ?_ | refine lw_val rfl (run_lookup (hs.mapAt 7 rfl) strKind Tryd.underlying107 Tryd.underlying9 ze112 rfl rfl (o := none) (by rw [nmV_get, hn]; rfl)) ?_ | refine lw_val rfl (run_lookup (hs.mapAt 8 rfl) strKind Tryd.underlying107 Tryd.underlying9 ze112 rfl rfl (o := none) (by rw [nmV_get, hn]; rfl)) ?_ | refine lw_val rfl (run_lookup (hs.mapAt 9 rfl) strKind Tryd.underlying107 Tryd.underlying9 ze112 rfl rfl (o := none) (by rw [nmV_get, hn]; rfl)) ?_ | refine lw_val rfl (run_lookup (hs.mapAt 10 rfl) strKind Tryd.underlying107 Tryd.underlying9 ze112 rfl rfl (o := none) (by rw [nmV_get, hn]; rfl)) ?_ | refine lw_val rfl (run_lookup (hs.mapAt 11 rfl) strKind Tryd.underlying107 Tryd.underlying9 ze112 rfl rfl (o := none) (by rw [nmV_get, hn]; rfl)) ?_ | refine lw_val rfl (run_lookup (hs.mapAt 12 rfl) strKind Tryd.underlying107 Tryd.underlying9 ze112 rfl rfl (o := none) (by rw [nmV_get, hn]; rfl)) ?_ | refine lw_val rfl (run_lookup (hs.mapAt 13 rfl) strKind Tryd.underlying107 Tryd.underlying9 ze112 rfl rfl (o := none) (by rw [nmV_get, hn]; rfl)) ?_
        refine lw_val rfl (run_nepn Tryd.underlying112 rfl rfl) ?_
        first | refine lw_val rfl (run_assign (v := .bool _) rfl) ?_
        refine lw_nil ?_
        refine cw_iff rfl (rfl) ?_
        refine cw_skip ?_
        refine cw_seq ?_
        refine cw_region ?_
        first | refine lw_val rfl (run_move (v := .pointer (some _)) rfl) ?_ | refine lw_val rfl (run_move (v := .pointer none) rfl) ?_
        refine lw_val rfl (run_nilCheckP rfl) ?_
        first | refine lw_val rfl (run_fieldAddr (o' := 4) Tryd.underlying110 rfl sz3 rfl rfl rfl) ?_ | refine lw_val rfl (run_fieldAddr Tryd.underlying110 rfl sz3 rfl rfl rfl) ?_
        first | refine lw_val rfl (run_load Tryd.underlying3 rfl rfl (hs.cellAt 0 rfl rfl)) ?_ | refine lw_val rfl (run_load Tryd.underlying3 rfl rfl (hs.cellAt 1 rfl rfl)) ?_ | refine lw_val rfl (run_load Tryd.underlying3 rfl rfl (hs.cellAt 2 rfl rfl)) ?_ | refine lw_val rfl (run_load Tryd.underlying3 rfl rfl (hs.cellAt 3 rfl rfl)) ?_ | refine lw_val rfl (run_load Tryd.underlying3 rfl rfl (hs.cellAt 4 rfl rfl)) ?_ | refine lw_val rfl (run_load Tryd.underlying3 rfl rfl (hs.cellAt 5 rfl rfl)) ?_ | refine lw_val rfl (run_load Tryd.underlying3 rfl rfl (hs.cellAt 6 rfl rfl)) ?_ | refine lw_val rfl (run_load Tryd.underlying3 rfl rfl (hs.cellAt 7 rfl rfl)) ?_ | refine lw_val rfl (run_load Tryd.underlying3 rfl rfl (hs.cellAt 8 rfl rfl)) ?_ | refine lw_val rfl (run_load Tryd.underlying3 rfl rfl (hs.cellAt 9 rfl rfl)) ?_ | refine lw_val rfl (run_load Tryd.underlying3 rfl rfl (hs.cellAt 10 rfl rfl)) ?_ | refine lw_val rfl (run_load Tryd.underlying3 rfl rfl (hs.cellAt 11 rfl rfl)) ?_ | refine lw_val rfl (run_load Tryd.underlying3 rfl rfl (hs.cellAt 12 rfl rfl)) ?_ | refine lw_val rfl (run_load Tryd.underlying3 rfl rfl (hs.cellAt 13 rfl rfl)) ?_
        refine lw_val rfl (run_add64 rfl rfl rfl (inI (by omega) (by omega))) ?_
        refine lw_val rfl (run_nilCheckP rfl) ?_
        first | refine lw_val rfl (run_fieldAddr (o' := 4) Tryd.underlying110 rfl sz3 rfl rfl rfl) ?_ | refine lw_val rfl (run_fieldAddr Tryd.underlying110 rfl sz3 rfl rfl rfl) ?_
        first | refine lw_store (v := .int .i64 _) hs 0 rfl sz3 rfl rfl rfl rfl ?_ | refine lw_store (v := .int .i64 _) hs 1 rfl sz3 rfl rfl rfl rfl ?_ | refine lw_store (v := .int .i64 _) hs 2 rfl sz3 rfl rfl rfl rfl ?_ | refine lw_store (v := .int .i64 _) hs 3 rfl sz3 rfl rfl rfl rfl ?_ | refine lw_store (v := .int .i64 _) hs 4 rfl sz3 rfl rfl rfl rfl ?_ | refine lw_store (v := .int .i64 _) hs 5 rfl sz3 rfl rfl rfl rfl ?_ | refine lw_store (v := .int .i64 _) hs 6 rfl sz3 rfl rfl rfl rfl ?_ | refine lw_store (v := .int .i64 _) hs 7 rfl sz3 rfl rfl rfl rfl ?_ | refine lw_store (v := .int .i64 _) hs 8 rfl sz3 rfl rfl rfl rfl ?_ | refine lw_store (v := .int .i64 _) hs 9 rfl sz3 rfl rfl rfl rfl ?_ | refine lw_store (v := .int .i64 _) hs 10 rfl sz3 rfl rfl rfl rfl ?_ | refine lw_store (v := .int .i64 _) hs 11 rfl sz3 rfl rfl rfl rfl ?_ | refine lw_store (v := .int .i64 _) hs 12 rfl sz3 rfl rfl rfl rfl ?_ | refine lw_store (v := .int .i64 _) hs 13 rfl sz3 rfl rfl rfl rfl ?_
        clear hs
        intro w hs
        try simp only [List.set_cons_succ, List.set_cons_zero] at hs
        refine lw_nil ?_
        refine cw_seq ?_
        refine cw_region ?_
        first | refine lw_val rfl (run_move (v := .pointer (some _)) rfl) ?_ | refine lw_val rfl (run_move (v := .pointer none) rfl) ?_
        first | refine lw_val rfl (run_move (v := .string _) rfl) ?_
        first | refine lw_val rfl (run_move (v := .pointer (some _)) rfl) ?_ | refine lw_val rfl (run_move (v := .pointer none) rfl) ?_
        refine lw_val rfl (run_nilCheckP rfl) ?_
        first | refine lw_val rfl (run_fieldAddr (o' := 4) Tryd.underlying110 rfl sz3 rfl rfl rfl) ?_ | refine lw_val rfl (run_fieldAddr Tryd.underlying110 rfl sz3 rfl rfl rfl) ?_
        first | refine lw_val rfl (run_load Tryd.underlying3 rfl rfl (hs.cellAt 0 rfl rfl)) ?_ | refine lw_val rfl (run_load Tryd.underlying3 rfl rfl (hs.cellAt 1 rfl rfl)) ?_ | refine lw_val rfl (run_load Tryd.underlying3 rfl rfl (hs.cellAt 2 rfl rfl)) ?_ | refine lw_val rfl (run_load Tryd.underlying3 rfl rfl (hs.cellAt 3 rfl rfl)) ?_ | refine lw_val rfl (run_load Tryd.underlying3 rfl rfl (hs.cellAt 4 rfl rfl)) ?_ | refine lw_val rfl (run_load Tryd.underlying3 rfl rfl (hs.cellAt 5 rfl rfl)) ?_ | refine lw_val rfl (run_load Tryd.underlying3 rfl rfl (hs.cellAt 6 rfl rfl)) ?_ | refine lw_val rfl (run_load Tryd.underlying3 rfl rfl (hs.cellAt 7 rfl rfl)) ?_ | refine lw_val rfl (run_load Tryd.underlying3 rfl rfl (hs.cellAt 8 rfl rfl)) ?_ | refine lw_val rfl (run_load Tryd.underlying3 rfl rfl (hs.cellAt 9 rfl rfl)) ?_ | refine lw_val rfl (run_load Tryd.underlying3 rfl rfl (hs.cellAt 10 rfl rfl)) ?_ | refine lw_val rfl (run_load Tryd.underlying3 rfl rfl (hs.cellAt 11 rfl rfl)) ?_ | refine lw_val rfl (run_load Tryd.underlying3 rfl rfl (hs.cellAt 12 rfl rfl)) ?_ | refine lw_val rfl (run_load Tryd.underlying3 rfl rfl (hs.cellAt 13 rfl rfl)) ?_
        refine lw_val rfl (run_build (cs := [.int .i64 ((d.begin.2.files + 1 : Nat) : Int), .slice none 0 0, .int .i64 0]) Tryd.underlying115 ze115 pl115 rfl) ?_
        refine lw_box (v := .agg _) hs rfl rfl ?_
        clear hs
        intro b39 w hs
        replace hs := Mem.addFile (d := d.begin.2) ho1 hs
        refine lw_val rfl (run_build (cs := [.string n, .string ByteArray.empty, .pointer (some ⟨b39, 0, none⟩)]) Tryd.underlying117 ze117 pl117 rfl) ?_
        refine lw_call rfl en78 (change_sl (d := d.begin.2.addF) (by show d.begin.2.calls < _; omega) (by show d.begin.2.changes.length < _; omega) hs ⟨n, ByteArray.empty, some (d.begin.2.files + 1)⟩ (fun i hi => by cases hi; exact ⟨b39, aget_put_same _ _ _⟩) (row := [.string n, .string ByteArray.empty, .pointer (some ⟨b39, 0, none⟩)]) (by simp [chgV, fptr, aget_put_same])) ?_
        clear hs
        rintro _ w ⟨rfl, sa2, sc2, hs⟩
        refine lw_nil ?_
        refine cw_seq ?_
        refine cw_region ?_
        first | refine lw_val rfl (run_assign (v := errV ad _) rfl) ?_ | refine lw_val rfl (run_assign (v := .nilIface) rfl) ?_ | refine lw_val rfl (run_assign (v := eV ad _ _) rfl) ?_ | refine lw_val rfl (run_assign (v := .iface _ (.pointer (some _))) rfl) ?_
        refine lw_nil ?_
        refine cw_ret ?_
        first | refine res1 (v := errV ad _) rfl rfl ?_ | refine res1 (v := .nilIface) rfl rfl ?_ | refine res1 (v := eV ad _ _) rfl rfl ?_ | refine res1 (v := .iface _ (.pointer (some _))) rfl rfl ?_
        have hb1 : d.begin.1 = 0 := by simpa using h9
        have e : d.create n = (0, d.begin.2.addF.change ⟨n, ByteArray.empty, some (d.begin.2.files + 1)⟩) := by simp [Dk.create, hb1, h13, hn, Dk.addF]
        rw [e] at hk
        cases hk
        exact ⟨_, rfl, (errV_zero ad).symm, Mem.closeD (ho1.create fun i hi => by cases hi; rfl) hs⟩
  | some i =>
    obtain ⟨b, hbp, hp, hf⟩ := ho.ptrOf hs 4 rfl (ho.named (n := n) (by rw [← hb.2.1]; exact hn))
    refine calls_cw Tryd.func29 rfl rfl ?_
    skip
    refine cw_seq ?_
    refine cw_region ?_
    first | refine lw_val rfl (run_assign (v := errV ad _) rfl) ?_ | refine lw_val rfl (run_assign (v := .nilIface) rfl) ?_ | refine lw_val rfl (run_assign (v := eV ad _ _) rfl) ?_ | refine lw_val rfl (run_assign (v := .iface _ (.pointer (some _))) rfl) ?_
    refine lw_nil ?_
    refine cw_seq ?_
    refine cw_seq ?_
    refine cw_region ?_
    first | refine lw_val rfl (run_move (v := .pointer (some _)) rfl) ?_ | refine lw_val rfl (run_move (v := .pointer none) rfl) ?_
    refine lw_call rfl en77 (begin_sl hE ho hs) ?_
    clear hs
    rintro _ w ⟨rfl, hs⟩
    first | refine lw_val rfl (run_assign (v := errV ad _) rfl) ?_ | refine lw_val rfl (run_assign (v := .nilIface) rfl) ?_ | refine lw_val rfl (run_assign (v := eV ad _ _) rfl) ?_ | refine lw_val rfl (run_assign (v := .iface _ (.pointer (some _))) rfl) ?_
    refine lw_nil ?_
    refine cw_seq ?_
    refine cw_region ?_
    first | refine lw_val rfl (run_move (v := errV ad _) rfl) ?_ | refine lw_val rfl (run_move (v := .nilIface) rfl) ?_ | refine lw_val rfl (run_move (v := eV ad _ _) rfl) ?_ | refine lw_val rfl (run_move (v := .iface _ (.pointer (some _))) rfl) ?_
    first | refine lw_val rfl (run_neerrn (ad := ad) rfl) ?_ | refine lw_val rfl (run_nenn rfl) ?_ | refine lw_val rfl (run_neE (ad := ad) rfl) ?_
    refine lw_nil ?_
    refine cw_if rfl ?_ ?_
    · intro h9
      have g9 := ne_t h9
      refine cw_seq ?_
      refine cw_region ?_
      first | refine lw_val rfl (run_move (v := errV ad _) rfl) ?_ | refine lw_val rfl (run_move (v := .nilIface) rfl) ?_ | refine lw_val rfl (run_move (v := eV ad _ _) rfl) ?_ | refine lw_val rfl (run_move (v := .iface _ (.pointer (some _))) rfl) ?_
      first | refine lw_val rfl (run_assign (v := errV ad _) rfl) ?_ | refine lw_val rfl (run_assign (v := .nilIface) rfl) ?_ | refine lw_val rfl (run_assign (v := eV ad _ _) rfl) ?_ | refine lw_val rfl (run_assign (v := .iface _ (.pointer (some _))) rfl) ?_
      refine lw_nil ?_
      refine cw_ret ?_
      first | refine res1 (v := errV ad _) rfl rfl ?_ | refine res1 (v := .nilIface) rfl rfl ?_ | refine res1 (v := eV ad _ _) rfl rfl ?_ | refine res1 (v := .iface _ (.pointer (some _))) rfl rfl ?_
      have hb1 : d.begin.1 ≠ 0 := by simpa using h9
      have e : d.create n = (110, d.begin.2) := by simp [Dk.create, hb1]
      rw [e] at hk
      cases hk
      rw [show d.begin.1 = 110 by omega]
      exact ⟨_, rfl, rfl, Mem.closeD ho1 hs⟩
    · intro h9
      have g9 := ne_f h9
      refine cw_skip ?_
      refine cw_seq ?_
      refine cw_block ?_
      refine cw_seq ?_
      refine cw_region ?_
      first | refine lw_val rfl (run_move (v := .string _) rfl) ?_
      refine lw_call rfl en70 (valid_sl hs n) ?_
      clear hs
      rintro _ w ⟨rfl, hs⟩
      refine lw_val rfl (run_not rfl) ?_
      first | refine lw_val rfl (run_assign (v := .bool _) rfl) ?_
      refine lw_nil ?_
      refine cw_if rfl ?_ ?_
      · intro h13
        replace h13 := not_b h13
        refine cw_seq ?_
        refine cw_region ?_
        refine lw_val rfl (run_load Tryd.underlying30 rfl rfl (hE.cellW hs 106 (by decide) rfl)) ?_
        first | refine lw_val rfl (run_assign (v := errV ad _) rfl) ?_ | refine lw_val rfl (run_assign (v := .nilIface) rfl) ?_ | refine lw_val rfl (run_assign (v := eV ad _ _) rfl) ?_ | refine lw_val rfl (run_assign (v := .iface _ (.pointer (some _))) rfl) ?_
        refine lw_nil ?_
        refine cw_ret ?_
        first | refine res1 (v := errV ad _) rfl rfl ?_ | refine res1 (v := .nilIface) rfl rfl ?_ | refine res1 (v := eV ad _ _) rfl rfl ?_ | refine res1 (v := .iface _ (.pointer (some _))) rfl rfl ?_
        have hb1 : d.begin.1 = 0 := by simpa using h9
        have e : d.create n = (106, d.begin.2) := by simp [Dk.create, hb1, h13]
        rw [e] at hk
        cases hk
        exact ⟨_, rfl, rfl, Mem.closeD ho1 hs⟩
      · intro h13
        replace h13 := not_c h13
        refine cw_seq ?_
        refine cw_region ?_
        first | refine lw_val rfl (run_move (v := .pointer (some _)) rfl) ?_ | refine lw_val rfl (run_move (v := .pointer none) rfl) ?_
        refine lw_val rfl (run_nilCheckP rfl) ?_
        first | refine lw_val rfl (run_fieldAddr (o' := 1) Tryd.underlying110 rfl sz107 rfl rfl rfl) ?_ | refine lw_val rfl (run_fieldAddr Tryd.underlying110 rfl sz107 rfl rfl rfl) ?_
        first | refine lw_val rfl (run_load Tryd.underlying107 rfl rfl (hs.cellAt 0 rfl rfl)) ?_ | refine lw_val rfl (run_load Tryd.underlying107 rfl rfl (hs.cellAt 1 rfl rfl)) ?_ | refine lw_val rfl (run_load Tryd.underlying107 rfl rfl (hs.cellAt 2 rfl rfl)) ?_ | refine lw_val rfl (run_load Tryd.underlying107 rfl rfl (hs.cellAt 3 rfl rfl)) ?_ | refine lw_val rfl (run_load Tryd.underlying107 rfl rfl (hs.cellAt 4 rfl rfl)) ?_ | refine lw_val rfl (run_load Tryd.underlying107 rfl rfl (hs.cellAt 5 rfl rfl)) ?_ | refine lw_val rfl (run_load Tryd.underlying107 rfl rfl (hs.cellAt 6 rfl rfl)) ?_ | refine lw_val rfl (run_load Tryd.underlying107 rfl rfl (hs.cellAt 7 rfl rfl)) ?_ | refine lw_val rfl (run_load Tryd.underlying107 rfl rfl (hs.cellAt 8 rfl rfl)) ?_ | refine lw_val rfl (run_load Tryd.underlying107 rfl rfl (hs.cellAt 9 rfl rfl)) ?_ | refine lw_val rfl (run_load Tryd.underlying107 rfl rfl (hs.cellAt 10 rfl rfl)) ?_ | refine lw_val rfl (run_load Tryd.underlying107 rfl rfl (hs.cellAt 11 rfl rfl)) ?_ | refine lw_val rfl (run_load Tryd.underlying107 rfl rfl (hs.cellAt 12 rfl rfl)) ?_ | refine lw_val rfl (run_load Tryd.underlying107 rfl rfl (hs.cellAt 13 rfl rfl)) ?_
        first | refine lw_val rfl (run_move (v := .string _) rfl) ?_
        first | refine lw_val rfl (run_lookup (hs.mapAt 0 rfl) strKind Tryd.underlying107 Tryd.underlying9 ze112 rfl rfl (o := some (.pointer (some ⟨b, 0, none⟩))) (by rw [nmV_get, hn, Option.map_some, hp])) ?_ | refine lw_val rfl (run_lookup (hs.mapAt 1 rfl) strKind Tryd.underlying107 Tryd.underlying9 ze112 rfl rfl (o := some (.pointer (some ⟨b, 0, none⟩))) (by rw [nmV_get, hn, Option.map_some, hp])) ?_ | refine lw_val rfl (run_lookup (hs.mapAt 2 rfl) strKind Tryd.underlying107 Tryd.underlying9 ze112 rfl rfl (o := some (.pointer (some ⟨b, 0, none⟩))) (by rw [nmV_get, hn, Option.map_some, hp])) ?_ | refine lw_val rfl (run_lookup (hs.mapAt 3 rfl) strKind Tryd.underlying107 Tryd.underlying9 ze112 rfl rfl (o := some (.pointer (some ⟨b, 0, none⟩))) (by rw [nmV_get, hn, Option.map_some, hp])) ?_ | refine lw_val rfl (run_lookup (hs.mapAt 4 rfl) strKind Tryd.underlying107 Tryd.underlying9 ze112 rfl rfl (o := some (.pointer (some ⟨b, 0, none⟩))) (by rw [nmV_get, hn, Option.map_some, hp])) ?_ | refine lw_val rfl (run_lookup (hs.mapAt 5 rfl) strKind Tryd.underlying107 Tryd.underlying9 ze112 rfl rfl (o := some (.pointer (some ⟨b, 0, none⟩))) (by rw [nmV_get, hn, Option.map_some, hp])) ?_ | refine lw_val rfl (run_lookup (hs.mapAt 6 rfl) strKind Tryd.underlying107 Tryd.underlying9 ze112 rfl rfl (o := some (.pointer (some ⟨b, 0, none⟩))) (by rw [nmV_get, hn, Option.map_some, hp])) ?_ | refine lw_val rfl (run_lookup (hs.mapAt 7 rfl) strKind Tryd.underlying107 Tryd.underlying9 ze112 rfl rfl (o := some (.pointer (some ⟨b, 0, none⟩))) (by rw [nmV_get, hn, Option.map_some, hp])) ?_ | refine lw_val rfl (run_lookup (hs.mapAt 8 rfl) strKind Tryd.underlying107 Tryd.underlying9 ze112 rfl rfl (o := some (.pointer (some ⟨b, 0, none⟩))) (by rw [nmV_get, hn, Option.map_some, hp])) ?_ | refine lw_val rfl (run_lookup (hs.mapAt 9 rfl) strKind Tryd.underlying107 Tryd.underlying9 ze112 rfl rfl (o := some (.pointer (some ⟨b, 0, none⟩))) (by rw [nmV_get, hn, Option.map_some, hp])) ?_ | refine lw_val rfl (run_lookup (hs.mapAt 10 rfl) strKind Tryd.underlying107 Tryd.underlying9 ze112 rfl rfl (o := some (.pointer (some ⟨b, 0, none⟩))) (by rw [nmV_get, hn, Option.map_some, hp])) ?_ | refine lw_val rfl (run_lookup (hs.mapAt 11 rfl) strKind Tryd.underlying107 Tryd.underlying9 ze112 rfl rfl (o := some (.pointer (some ⟨b, 0, none⟩))) (by rw [nmV_get, hn, Option.map_some, hp])) ?_ | refine lw_val rfl (run_lookup (hs.mapAt 12 rfl) strKind Tryd.underlying107 Tryd.underlying9 ze112 rfl rfl (o := some (.pointer (some ⟨b, 0, none⟩))) (by rw [nmV_get, hn, Option.map_some, hp])) ?_ | refine lw_val rfl (run_lookup (hs.mapAt 13 rfl) strKind Tryd.underlying107 Tryd.underlying9 ze112 rfl rfl (o := some (.pointer (some ⟨b, 0, none⟩))) (by rw [nmV_get, hn, Option.map_some, hp])) ?_
        refine lw_val rfl (run_nepn Tryd.underlying112 rfl rfl) ?_
        first | refine lw_val rfl (run_assign (v := .bool _) rfl) ?_
        refine lw_nil ?_
        refine cw_ift rfl rfl ?_
        refine cw_seq ?_
        refine cw_region ?_
        refine lw_val rfl (run_load Tryd.underlying30 rfl rfl (hE.cellW hs 108 (by decide) rfl)) ?_
        first | refine lw_val rfl (run_assign (v := errV ad _) rfl) ?_ | refine lw_val rfl (run_assign (v := .nilIface) rfl) ?_ | refine lw_val rfl (run_assign (v := eV ad _ _) rfl) ?_ | refine lw_val rfl (run_assign (v := .iface _ (.pointer (some _))) rfl) ?_
        refine lw_nil ?_
        refine cw_ret ?_
        first | refine res1 (v := errV ad _) rfl rfl ?_ | refine res1 (v := .nilIface) rfl rfl ?_ | refine res1 (v := eV ad _ _) rfl rfl ?_ | refine res1 (v := .iface _ (.pointer (some _))) rfl rfl ?_
        have hb1 : d.begin.1 = 0 := by simpa using h9
        have e : d.create n = (108, d.begin.2) := by simp [Dk.create, hb1, h13, hn]
        rw [e] at hk
        cases hk
        exact ⟨_, rfl, rfl, Mem.closeD ho1 hs⟩

/-! ### Used -/
theorem sum_del (f : Nat → Nat) : ∀ {l : List (ByteArray × Nat)} {k : ByteArray} {i : Nat}, aget l k = some i → ((adel l k).map fun x => f x.2).sum + f i = (l.map fun x => f x.2).sum
  | (a, b) :: l, k, i, h => by
    simp only [aget] at h
    simp only [adel]
    split at h
    · rename_i e
      rw [if_pos e]
      cases h
      simp [Nat.add_comm]
    · rename_i e
      rw [if_neg e]
      have := sum_del f h
      simp only [List.map_cons, List.sum_cons]
      omega
theorem usedP_sl (hs : Mem g w (diskParts p d mn mk sa sc ptr ++ L)) (ho : d.ok) (hc : d.calls < 1000000) : Calls Tryd.prog 53 #[.pointer (some ⟨p, 0, none⟩)] w (Ret fun v w' => v = .int .i64 d.used ∧ Mem g w' (diskParts p d mn mk sa sc ptr ++ L)) := by
  have hu := Dk.used_le ho
  refine calls_cw Tryd.func53 rfl rfl ?_
  skip
  refine cw_seq ?_
  refine cw_region ?_
  first | refine lw_val rfl (run_assign (v := .int .i64 _) rfl) ?_
  refine lw_nil ?_
  refine cw_seq ?_
  refine cw_region ?_
  first | refine lw_val rfl (run_assign (v := .int .i64 _) rfl) ?_
  refine lw_nil ?_
  refine cw_seq ?_
  refine cw_seq ?_
  refine cw_region ?_
  first | refine lw_val rfl (run_move (v := .pointer (some _)) rfl) ?_ | refine lw_val rfl (run_move (v := .pointer none) rfl) ?_
  refine lw_val rfl (run_nilCheckP rfl) ?_
  first | refine lw_val rfl (run_fieldAddr (o' := 1) Tryd.underlying110 rfl sz107 rfl rfl rfl) ?_ | refine lw_val rfl (run_fieldAddr Tryd.underlying110 rfl sz107 rfl rfl rfl) ?_
  first | refine lw_val rfl (run_load Tryd.underlying107 rfl rfl (hs.cellAt 0 rfl rfl)) ?_ | refine lw_val rfl (run_load Tryd.underlying107 rfl rfl (hs.cellAt 1 rfl rfl)) ?_ | refine lw_val rfl (run_load Tryd.underlying107 rfl rfl (hs.cellAt 2 rfl rfl)) ?_ | refine lw_val rfl (run_load Tryd.underlying107 rfl rfl (hs.cellAt 3 rfl rfl)) ?_ | refine lw_val rfl (run_load Tryd.underlying107 rfl rfl (hs.cellAt 4 rfl rfl)) ?_ | refine lw_val rfl (run_load Tryd.underlying107 rfl rfl (hs.cellAt 5 rfl rfl)) ?_ | refine lw_val rfl (run_load Tryd.underlying107 rfl rfl (hs.cellAt 6 rfl rfl)) ?_ | refine lw_val rfl (run_load Tryd.underlying107 rfl rfl (hs.cellAt 7 rfl rfl)) ?_ | refine lw_val rfl (run_load Tryd.underlying107 rfl rfl (hs.cellAt 8 rfl rfl)) ?_ | refine lw_val rfl (run_load Tryd.underlying107 rfl rfl (hs.cellAt 9 rfl rfl)) ?_ | refine lw_val rfl (run_load Tryd.underlying107 rfl rfl (hs.cellAt 10 rfl rfl)) ?_ | refine lw_val rfl (run_load Tryd.underlying107 rfl rfl (hs.cellAt 11 rfl rfl)) ?_ | refine lw_val rfl (run_load Tryd.underlying107 rfl rfl (hs.cellAt 12 rfl rfl)) ?_ | refine lw_val rfl (run_load Tryd.underlying107 rfl rfl (hs.cellAt 13 rfl rfl)) ?_
  first | refine lw_rangeM hs rfl 0 rfl Tryd.underlying107 rfl ?_ | refine lw_rangeM hs rfl 1 rfl Tryd.underlying107 rfl ?_ | refine lw_rangeM hs rfl 2 rfl Tryd.underlying107 rfl ?_ | refine lw_rangeM hs rfl 3 rfl Tryd.underlying107 rfl ?_ | refine lw_rangeM hs rfl 4 rfl Tryd.underlying107 rfl ?_ | refine lw_rangeM hs rfl 5 rfl Tryd.underlying107 rfl ?_ | refine lw_rangeM hs rfl 6 rfl Tryd.underlying107 rfl ?_ | refine lw_rangeM hs rfl 7 rfl Tryd.underlying107 rfl ?_ | refine lw_rangeM hs rfl 8 rfl Tryd.underlying107 rfl ?_ | refine lw_rangeM hs rfl 9 rfl Tryd.underlying107 rfl ?_ | refine lw_rangeM hs rfl 10 rfl Tryd.underlying107 rfl ?_ | refine lw_rangeM hs rfl 11 rfl Tryd.underlying107 rfl ?_ | refine lw_rangeM hs rfl 12 rfl Tryd.underlying107 rfl ?_ | refine lw_rangeM hs rfl 13 rfl Tryd.underlying107 rfl ?_
  clear hs
  intro r10 w hs
  try simp only [List.set_cons_succ, List.set_cons_zero] at hs
  refine lw_nil ?_
  refine cw_block ?_
  refine cw_loop (X := Nat × List (ByteArray × Nat) × Option (ByteArray × Value)) [3, 5, 11, 12, 13, 14, 15, 16, 17, 18, 19, 20, 21] (fun x => [(3, .int .i64 (x.1 : Nat))]) (fun x w => x.1 + (x.2.1.map fun y => d.len y.2).sum = d.used ∧ (∀ y ∈ x.2.1, y ∈ d.names) ∧ Mem g w (cells p (diskL mn mk d sa sc) 110 :: rngC Value.string r10 mn (nmV ptr d.names) (nmV ptr x.2.1) x.2.2 :: mapS mk (nmV ptr d.kept) :: rowK 3 (.slice sa d.changes.length sc) (d.changes.map (chgV ptr)) :: famC flC ptr d.fs :: L)) (fun x => x.2.1.length) ((0, d.names, none)) ?_ ?_ ?_
  · exact ⟨rfl, trivial⟩
  · exact ⟨by simp [Dk.used], fun _ h => h, hs⟩
  clear hs
  rintro x ξ w hI
  obtain ⟨n, lo, cur⟩ := x
  obtain ⟨hsum, hin, hs⟩ := hI
  simp only at hsum hin hs
  show cw _ _ _ _ _ _ (updL (mix _ ξ _) [(3, .int .i64 (n : Nat))]) w
  refine cw_seq ?_
  refine cw_region ?_
  first | refine lw_nextM hs rfl 1 rfl strKind.inj rfl ?_ ?_ | refine lw_nextM hs rfl 1 rfl intKind.inj rfl ?_ ?_
  · intro hl11
    first | refine lw_val rfl (run_extract (v := .bool _) rfl rfl) ?_
    refine lw_nil ?_
    refine cw_seq ?_
    refine cw_iff rfl rfl ?_
    refine cw_exit rfl ?_
    refine cw_seq ?_
    refine cw_region ?_
    first | refine lw_val rfl (run_move (v := .int .i64 _) rfl) ?_
    first | refine lw_val rfl (run_assign (v := .int .i64 _) rfl) ?_
    refine lw_nil ?_
    refine cw_ret ?_
    refine res1 (v := .int .i64 _) rfl rfl ?_
    have e : lo = [] := by cases lo with | nil => rfl | cons x l => simp [nmV] at hl11
    subst e
    simp only [List.map_nil, List.sum_nil, Nat.add_zero] at hsum
    subst hsum
    exact ⟨_, rfl, rfl, hs.rngd 1 rfl⟩
  · clear hs
    intro k11 v11 w hk11 hs
    try simp only [List.set_cons_succ, List.set_cons_zero] at hs
    have hk2 := hk11
    rw [nmV_get] at hk2
    obtain ⟨i, hi, rfl⟩ := Option.map_eq_some_iff.1 hk2
    have hik : i ∈ keysOf d.fs := ho.nin _ (hin _ (aget_mem hi))
    obtain ⟨b, hb, hp, hf⟩ := ho.ptrOf hs 4 rfl hik
    rw [hp] at hs ⊢
    have hle := sum_del d.len hi
    have hlen := ho.tookB.len_eq hik
    have h3 := (ho.fid _ _ hf).2.2
    obtain ⟨fa, fc, _, hcell, _⟩ := hs.flCells 4 rfl hb hf
    first | refine lw_val rfl (run_extract (v := .bool _) rfl rfl) ?_
    refine lw_nil ?_
    refine cw_seq ?_
    refine cw_ift rfl rfl ?_
    refine cw_skip ?_
    refine cw_block ?_
    refine cw_seq ?_
    refine cw_region ?_
    first | refine lw_val rfl (run_entryM hs 1 rfl rfl) ?_
    first | refine lw_val rfl (run_extract (v := .pointer (some _)) rfl rfl) ?_ | refine lw_val rfl (run_extract (v := .pointer none) rfl rfl) ?_
    first | refine lw_val rfl (run_assign (v := .pointer (some _)) rfl) ?_ | refine lw_val rfl (run_assign (v := .pointer none) rfl) ?_
    refine lw_nil ?_
    refine cw_region ?_
    first | refine lw_val rfl (run_move (v := .int .i64 _) rfl) ?_
    first | refine lw_val rfl (run_move (v := .pointer (some _)) rfl) ?_ | refine lw_val rfl (run_move (v := .pointer none) rfl) ?_
    refine lw_val rfl (run_nilCheckP rfl) ?_
    first | refine lw_val rfl (run_fieldAddr (o' := 1) Tryd.underlying115 rfl sz23 rfl rfl rfl) ?_ | refine lw_val rfl (run_fieldAddr Tryd.underlying115 rfl sz23 rfl rfl rfl) ?_
    refine lw_val rfl (run_load Tryd.underlying23 rfl rfl hcell) ?_
    refine lw_val rfl (run_lenS Tryd.underlying23 rfl) ?_
    refine lw_val rfl (run_add64 rfl rfl (c := ((n + d.len i : Nat) : Int)) (by rw [hlen]; simp) (inI (by omega) (by omega))) ?_
    first | refine lw_val rfl (run_assign (v := .int .i64 _) rfl) ?_
    refine lw_nil ?_
    refine ⟨(n + d.len i, adel lo k11, some (k11, .pointer (some ⟨b, 0, none⟩))), ?_, ⟨by show n + d.len i + ((adel lo k11).map fun y => d.len y.2).sum = d.used; omega, fun y hy => hin y (adel_in hy), ?_⟩, ⟨rfl, trivial⟩, by repeat (first | exact Out.mix _ _ _ | refine Out.updo rfl ?_ | refine Out.upd rfl ?_ | refine Out.mixIn rfl ?_)⟩
    · exact adel_shrink hi
    · rw [← nmV_del] at hs; exact hs
theorem used_sl (hs : Mem g w (DiskC p d :: L)) (hc : d.calls < 1000000) : Calls Tryd.prog 53 #[.pointer (some ⟨p, 0, none⟩)] w (Ret fun v w' => v = .int .i64 d.used ∧ Mem g w' (DiskC p d :: L)) := by
  obtain ⟨ho, mn, mk, sa, sc, ptr, hs⟩ := hs.openD
  exact (usedP_sl hs ho hc).mono fun _ _ ⟨v, h1, h2, h3⟩ => ⟨v, h1, h2, Mem.closeD ho h3⟩
end Go.Proofs.YtmnfehbnjgmgjaaDoor
