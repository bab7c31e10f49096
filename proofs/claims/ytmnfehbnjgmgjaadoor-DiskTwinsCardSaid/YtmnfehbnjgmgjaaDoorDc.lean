/- The disk, over chunks: Append, Cut, Sync, Rename, Remove; Len, Synced, Read; Arm, Down, Calls. -/
import Derived.Test.YtmnfehbnjgmgjaaDoorDb
namespace Go.Proofs.YtmnfehbnjgmgjaaDoor
set_option linter.all false
open Go.RowKit
attribute [local irreducible] errV
variable {g w : World} {L M : List HP} {ad : Nat → Addr} {p mn mk sc : Nat} {sa : Option Addr} {d : Dk} {ptr : List (Nat × Nat)}

theorem Mem.closeF2 {b : Nat} {f : Fl} {i s : Int} {a : Option Addr} {n c : Nat} {l : List Value} (hi : i = f.id) (hn : n = f.b.length) (hs' : s = f.syn) (hl : l = bytesL f.b) (hs : Mem g w (cells b [.int .i64 i, .slice a n c, .int .i64 s] 115 :: own (.slice a n c) l :: L)) : Mem g w (flC b f :: L) := by
  subst hi hn hs' hl
  exact hs.closeF
/-- One file is opened. -/
theorem Mem.openFile {i b : Nat} {f : Fl} (hs : Mem g w (diskParts p d mn mk sa sc ptr ++ L)) (hb : aget ptr i = some b) (hf : aget d.fs i = some f) : ∃ a c, f.b.length ≤ c ∧ Mem g w (cells b [.int .i64 f.id, .slice a f.b.length c, .int .i64 f.syn] 115 :: own (.slice a f.b.length c) (bytesL f.b) :: cells p (diskL mn mk d sa sc) 110 :: mapS mn (nmV ptr d.names) :: mapS mk (nmV ptr d.kept) :: rowK 3 (.slice sa d.changes.length sc) (d.changes.map (chgV ptr)) :: famX flC (· = i) ptr d.fs :: L) := by
  have h1 := hs.famTake (R := flC) 4 rfl hb hf
  obtain ⟨a, c, h2⟩ := h1.openF
  exact ⟨a, c, (h2.ownForm 1 rfl).2.1, h2⟩
theorem Mem.shutFile {i b : Nat} {f : Fl} {A B C D : HP} {fs : List (Nat × Fl)} (hb : aget ptr i = some b) (hs : Mem g w (flC b f :: A :: B :: C :: D :: famX flC (· = i) ptr fs :: L)) : Mem g w (A :: B :: C :: D :: famC flC ptr (aput fs i f) :: L) := by
  have h1 := Mem.famPut (R := flC) (k := i) hs 4 rfl (fun _ h => h)
  rw [aput_same hb] at h1
  exact h1

def Dk.lenR (n : ByteArray) (d : Dk) : Nat × Nat := match d.file n with
  | (_, some i) => (0, (d.fl i).b.length)
  | (c, none) => (c, 0)
def Dk.synR (n : ByteArray) (d : Dk) : Nat × Nat := match d.file n with
  | (_, some i) => (0, (d.fl i).syn)
  | (c, none) => (c, 0)
theorem len_sl (hE : ErrK ad g) (hs : Mem g w (DiskC p d :: L)) (n : ByteArray) {k m : Nat} (hk : d.lenR n = (k, m)) : Calls Tryd.prog 54 #[.pointer (some ⟨p, 0, none⟩), .string n] w (Ret fun v w' => v = .tuple #[.int .i64 m, errV ad k] ∧ Mem g w' (DiskC p d :: L)) := by
  obtain ⟨ho, mn, mk, sa, sc, ptr, hs⟩ := hs.openD
  refine calls_cw Tryd.func54 rfl rfl ?_
  skip
  refine cw_seq ?_
  refine cw_region ?_
  first | refine lw_val rfl (run_assign (v := .int .i64 _) rfl) ?_
  first | refine lw_val rfl (run_assign (v := errV ad _) rfl) ?_ | refine lw_val rfl (run_assign (v := .nilIface) rfl) ?_ | refine lw_val rfl (run_assign (v := eV ad _ _) rfl) ?_ | refine lw_val rfl (run_assign (v := .iface _ (.pointer (some _))) rfl) ?_
  refine lw_nil ?_
  refine cw_seq ?_
  refine cw_region ?_
  first | refine lw_val rfl (run_move (v := .pointer (some _)) rfl) ?_ | refine lw_val rfl (run_move (v := .pointer none) rfl) ?_
  first | refine lw_val rfl (run_move (v := .string _) rfl) ?_
  refine lw_call rfl en83 (file_sl hE ho n hs) ?_
  clear hs
  rintro _ w ((⟨c, hc, h0, hr, rfl, hs⟩) | (⟨i, b, hr, hki, hb, hf, rfl, hs⟩))
  · skip
    first | refine lw_val rfl (run_move (v := .tuple _) rfl) ?_
    first | refine lw_val rfl (run_extract (v := .pointer (some _)) rfl rfl) ?_ | refine lw_val rfl (run_extract (v := .pointer none) rfl rfl) ?_
    first | refine lw_val rfl (run_extract (v := errV ad _) rfl rfl) ?_ | refine lw_val rfl (run_extract (v := .nilIface) rfl rfl) ?_ | refine lw_val rfl (run_extract (v := eV ad _ _) rfl rfl) ?_ | refine lw_val rfl (run_extract (v := .iface _ (.pointer (some _))) rfl rfl) ?_
    first | refine lw_val rfl (run_assign (v := .pointer (some _)) rfl) ?_ | refine lw_val rfl (run_assign (v := .pointer none) rfl) ?_
    first | refine lw_val rfl (run_assign (v := errV ad _) rfl) ?_ | refine lw_val rfl (run_assign (v := .nilIface) rfl) ?_ | refine lw_val rfl (run_assign (v := eV ad _ _) rfl) ?_ | refine lw_val rfl (run_assign (v := .iface _ (.pointer (some _))) rfl) ?_
    refine lw_nil ?_
    refine cw_seq ?_
    refine cw_seq ?_
    refine cw_region ?_
    first | refine lw_val rfl (run_move (v := errV ad _) rfl) ?_ | refine lw_val rfl (run_move (v := .nilIface) rfl) ?_ | refine lw_val rfl (run_move (v := eV ad _ _) rfl) ?_ | refine lw_val rfl (run_move (v := .iface _ (.pointer (some _))) rfl) ?_
    first | refine lw_val rfl (run_neerrn (ad := ad) rfl) ?_ | refine lw_val rfl (run_nenn rfl) ?_ | refine lw_val rfl (run_neE (ad := ad) rfl) ?_
    refine lw_nil ?_
    refine cw_ift rfl (by simp [h0]) ?_
    refine cw_seq ?_
    refine cw_region ?_
    first | refine lw_val rfl (run_move (v := errV ad _) rfl) ?_ | refine lw_val rfl (run_move (v := .nilIface) rfl) ?_ | refine lw_val rfl (run_move (v := eV ad _ _) rfl) ?_ | refine lw_val rfl (run_move (v := .iface _ (.pointer (some _))) rfl) ?_
    first | refine lw_val rfl (run_assign (v := .int .i64 _) rfl) ?_
    first | refine lw_val rfl (run_assign (v := errV ad _) rfl) ?_ | refine lw_val rfl (run_assign (v := .nilIface) rfl) ?_ | refine lw_val rfl (run_assign (v := eV ad _ _) rfl) ?_ | refine lw_val rfl (run_assign (v := .iface _ (.pointer (some _))) rfl) ?_
    refine lw_nil ?_
    refine cw_ret ?_
    first | refine res2 (v := .int .i64 _) (v2 := errV ad _) rfl rfl rfl ?_ | refine res2 (v := .int .i64 _) (v2 := .nilIface) rfl rfl rfl ?_ | refine res2 (v := .int .i64 _) (v2 := eV ad _ _) rfl rfl rfl ?_ | refine res2 (v := .int .i64 _) (v2 := .iface _ (.pointer (some _))) rfl rfl rfl ?_
    simp only [Dk.lenR, hr] at hk
    cases hk
    exact ⟨_, rfl, rfl, Mem.closeD ho hs⟩
  · skip
    first | refine lw_val rfl (run_move (v := .tuple _) rfl) ?_
    first | refine lw_val rfl (run_extract (v := .pointer (some _)) rfl rfl) ?_ | refine lw_val rfl (run_extract (v := .pointer none) rfl rfl) ?_
    first | refine lw_val rfl (run_extract (v := errV ad _) rfl rfl) ?_ | refine lw_val rfl (run_extract (v := .nilIface) rfl rfl) ?_ | refine lw_val rfl (run_extract (v := eV ad _ _) rfl rfl) ?_ | refine lw_val rfl (run_extract (v := .iface _ (.pointer (some _))) rfl rfl) ?_
    first | refine lw_val rfl (run_assign (v := .pointer (some _)) rfl) ?_ | refine lw_val rfl (run_assign (v := .pointer none) rfl) ?_
    first | refine lw_val rfl (run_assign (v := errV ad _) rfl) ?_ | refine lw_val rfl (run_assign (v := .nilIface) rfl) ?_ | refine lw_val rfl (run_assign (v := eV ad _ _) rfl) ?_ | refine lw_val rfl (run_assign (v := .iface _ (.pointer (some _))) rfl) ?_
    refine lw_nil ?_
    refine cw_seq ?_
    refine cw_seq ?_
    refine cw_region ?_
    first | refine lw_val rfl (run_move (v := errV ad _) rfl) ?_ | refine lw_val rfl (run_move (v := .nilIface) rfl) ?_ | refine lw_val rfl (run_move (v := eV ad _ _) rfl) ?_ | refine lw_val rfl (run_move (v := .iface _ (.pointer (some _))) rfl) ?_
    first | refine lw_val rfl (run_neerrn (ad := ad) rfl) ?_ | refine lw_val rfl (run_nenn rfl) ?_ | refine lw_val rfl (run_neE (ad := ad) rfl) ?_
    refine lw_nil ?_
    refine cw_iff rfl (rfl) ?_
    refine cw_skip ?_
    refine cw_seq ?_
    obtain ⟨fa, fc, _, hcell, _⟩ := hs.flCells 4 rfl hb hf
    refine cw_region ?_
    first | refine lw_val rfl (run_move (v := .pointer (some _)) rfl) ?_ | refine lw_val rfl (run_move (v := .pointer none) rfl) ?_
    refine lw_val rfl (run_nilCheckP rfl) ?_
    first | refine lw_val rfl (run_fieldAddr (o' := 1) Tryd.underlying115 rfl sz23 rfl rfl rfl) ?_ | refine lw_val rfl (run_fieldAddr Tryd.underlying115 rfl sz23 rfl rfl rfl) ?_
    refine lw_val rfl (run_load Tryd.underlying23 rfl rfl hcell) ?_
    refine lw_val rfl (run_lenS Tryd.underlying23 rfl) ?_
    first | refine lw_val rfl (run_assign (v := .int .i64 _) rfl) ?_
    first | refine lw_val rfl (run_assign (v := errV ad _) rfl) ?_ | refine lw_val rfl (run_assign (v := .nilIface) rfl) ?_ | refine lw_val rfl (run_assign (v := eV ad _ _) rfl) ?_ | refine lw_val rfl (run_assign (v := .iface _ (.pointer (some _))) rfl) ?_
    refine lw_nil ?_
    refine cw_ret ?_
    first | refine res2 (v := .int .i64 _) (v2 := errV ad _) rfl rfl rfl ?_ | refine res2 (v := .int .i64 _) (v2 := .nilIface) rfl rfl rfl ?_ | refine res2 (v := .int .i64 _) (v2 := eV ad _ _) rfl rfl rfl ?_ | refine res2 (v := .int .i64 _) (v2 := .iface _ (.pointer (some _))) rfl rfl rfl ?_
    simp only [Dk.lenR, hr] at hk
    cases hk
    exact ⟨_, rfl, by rw [errV_zero], Mem.closeD ho hs⟩
theorem down_sl (hs : Mem g w (DiskC p d :: L)) : Calls Tryd.prog 41 #[.pointer (some ⟨p, 0, none⟩)] w (Ret fun v w' => v = .bool d.down ∧ Mem g w' (DiskC p d :: L)) := by
  obtain ⟨ho, mn, mk, sa, sc, ptr, hs⟩ := hs.openD
  refine calls_cw Tryd.func41 rfl rfl ?_
  skip
  refine cw_seq ?_
  refine cw_region ?_
  first | refine lw_val rfl (run_assign (v := .bool _) rfl) ?_
  refine lw_nil ?_
  refine cw_seq ?_
  refine cw_region ?_
  first | refine lw_val rfl (run_move (v := .pointer (some _)) rfl) ?_ | refine lw_val rfl (run_move (v := .pointer none) rfl) ?_
  refine lw_val rfl (run_nilCheckP rfl) ?_
  first | refine lw_val rfl (run_fieldAddr (o' := 6) Tryd.underlying110 rfl sz4 rfl rfl rfl) ?_ | refine lw_val rfl (run_fieldAddr Tryd.underlying110 rfl sz4 rfl rfl rfl) ?_
  first | refine lw_val rfl (run_load Tryd.underlying4 rfl rfl (hs.cellAt 0 rfl rfl)) ?_ | refine lw_val rfl (run_load Tryd.underlying4 rfl rfl (hs.cellAt 1 rfl rfl)) ?_ | refine lw_val rfl (run_load Tryd.underlying4 rfl rfl (hs.cellAt 2 rfl rfl)) ?_ | refine lw_val rfl (run_load Tryd.underlying4 rfl rfl (hs.cellAt 3 rfl rfl)) ?_ | refine lw_val rfl (run_load Tryd.underlying4 rfl rfl (hs.cellAt 4 rfl rfl)) ?_ | refine lw_val rfl (run_load Tryd.underlying4 rfl rfl (hs.cellAt 5 rfl rfl)) ?_ | refine lw_val rfl (run_load Tryd.underlying4 rfl rfl (hs.cellAt 6 rfl rfl)) ?_ | refine lw_val rfl (run_load Tryd.underlying4 rfl rfl (hs.cellAt 7 rfl rfl)) ?_ | refine lw_val rfl (run_load Tryd.underlying4 rfl rfl (hs.cellAt 8 rfl rfl)) ?_ | refine lw_val rfl (run_load Tryd.underlying4 rfl rfl (hs.cellAt 9 rfl rfl)) ?_ | refine lw_val rfl (run_load Tryd.underlying4 rfl rfl (hs.cellAt 10 rfl rfl)) ?_ | refine lw_val rfl (run_load Tryd.underlying4 rfl rfl (hs.cellAt 11 rfl rfl)) ?_ | refine lw_val rfl (run_load Tryd.underlying4 rfl rfl (hs.cellAt 12 rfl rfl)) ?_ | refine lw_val rfl (run_load Tryd.underlying4 rfl rfl (hs.cellAt 13 rfl rfl)) ?_
  first | refine lw_val rfl (run_assign (v := .bool _) rfl) ?_
  refine lw_nil ?_
  refine cw_ret ?_
  refine res1 (v := .bool _) rfl rfl ?_
  exact ⟨_, rfl, rfl, Mem.closeD ho hs⟩
theorem dcalls_sl (hs : Mem g w (DiskC p d :: L)) : Calls Tryd.prog 56 #[.pointer (some ⟨p, 0, none⟩)] w (Ret fun v w' => v = .int .i64 d.calls ∧ Mem g w' (DiskC p d :: L)) := by
  obtain ⟨ho, mn, mk, sa, sc, ptr, hs⟩ := hs.openD
  refine calls_cw Tryd.func56 rfl rfl ?_
  skip
  refine cw_seq ?_
  refine cw_region ?_
  first | refine lw_val rfl (run_assign (v := .int .i64 _) rfl) ?_
  refine lw_nil ?_
  refine cw_seq ?_
  refine cw_region ?_
  first | refine lw_val rfl (run_move (v := .pointer (some _)) rfl) ?_ | refine lw_val rfl (run_move (v := .pointer none) rfl) ?_
  refine lw_val rfl (run_nilCheckP rfl) ?_
  first | refine lw_val rfl (run_fieldAddr (o' := 7) Tryd.underlying110 rfl sz3 rfl rfl rfl) ?_ | refine lw_val rfl (run_fieldAddr Tryd.underlying110 rfl sz3 rfl rfl rfl) ?_
  first | refine lw_val rfl (run_load Tryd.underlying3 rfl rfl (hs.cellAt 0 rfl rfl)) ?_ | refine lw_val rfl (run_load Tryd.underlying3 rfl rfl (hs.cellAt 1 rfl rfl)) ?_ | refine lw_val rfl (run_load Tryd.underlying3 rfl rfl (hs.cellAt 2 rfl rfl)) ?_ | refine lw_val rfl (run_load Tryd.underlying3 rfl rfl (hs.cellAt 3 rfl rfl)) ?_ | refine lw_val rfl (run_load Tryd.underlying3 rfl rfl (hs.cellAt 4 rfl rfl)) ?_ | refine lw_val rfl (run_load Tryd.underlying3 rfl rfl (hs.cellAt 5 rfl rfl)) ?_ | refine lw_val rfl (run_load Tryd.underlying3 rfl rfl (hs.cellAt 6 rfl rfl)) ?_ | refine lw_val rfl (run_load Tryd.underlying3 rfl rfl (hs.cellAt 7 rfl rfl)) ?_ | refine lw_val rfl (run_load Tryd.underlying3 rfl rfl (hs.cellAt 8 rfl rfl)) ?_ | refine lw_val rfl (run_load Tryd.underlying3 rfl rfl (hs.cellAt 9 rfl rfl)) ?_ | refine lw_val rfl (run_load Tryd.underlying3 rfl rfl (hs.cellAt 10 rfl rfl)) ?_ | refine lw_val rfl (run_load Tryd.underlying3 rfl rfl (hs.cellAt 11 rfl rfl)) ?_ | refine lw_val rfl (run_load Tryd.underlying3 rfl rfl (hs.cellAt 12 rfl rfl)) ?_ | refine lw_val rfl (run_load Tryd.underlying3 rfl rfl (hs.cellAt 13 rfl rfl)) ?_
  first | refine lw_val rfl (run_assign (v := .int .i64 _) rfl) ?_
  refine lw_nil ?_
  refine cw_ret ?_
  refine res1 (v := .int .i64 _) rfl rfl ?_
  exact ⟨_, rfl, rfl, Mem.closeD ho hs⟩
theorem run_max {P : Program} {ρ : Env} {dst : Option Tmp} {ty : TypeId} {pos : String} {aft : Array Edge} {x y : Operand} {ts : Array TypeId} {k : IntKind} {a b : Int} (hx : ev ρ x = .int k a) (hy : ev ρ y = .int k b) : (execOp (ev ρ) ⟨dst, .call { callee := .builtin .max, args := #[x, y], argTypes := ts }, ty, pos, aft, none⟩).run P w = .ok (.value (.int k (max a b))) w := by
  have : (if a < b then b else a) = max a b := by
    rw [Int.max_def]; split <;> split <;> omega
  simp [execOp, resolve, invoke, builtin, Builtin.max_, hx, hy, Builtin.max2, this]
theorem arm_sl (hs : Mem g w (DiskC p d :: L)) (n : Nat) (hn : n ≤ 9223372036854775807) : Calls Tryd.prog 39 #[.pointer (some ⟨p, 0, none⟩), .int .i64 n] w (Ret fun v w' => v = .tuple #[] ∧ Mem g w' (DiskC p { d with armed := n } :: L)) := by
  obtain ⟨ho, mn, mk, sa, sc, ptr, hs⟩ := hs.openD
  have ho2 : ({ d with armed := n } : Dk).ok := ⟨ho.tookB.same rfl rfl rfl rfl rfl rfl, ho.fcl, ho.nl, ho.kl, hn⟩
  refine calls_cw Tryd.func39 rfl rfl ?_
  skip
  refine cw_region ?_
  first | refine lw_val rfl (run_move (v := .pointer (some _)) rfl) ?_ | refine lw_val rfl (run_move (v := .pointer none) rfl) ?_
  first | refine lw_val rfl (run_move (v := .int .i64 _) rfl) ?_
  refine lw_val rfl (run_max rfl rfl) ?_
  rw [show max (n : Int) 0 = (n : Int) by omega]
  refine lw_val rfl (run_nilCheckP rfl) ?_
  first | refine lw_val rfl (run_fieldAddr (o' := 5) Tryd.underlying110 rfl sz3 rfl rfl rfl) ?_ | refine lw_val rfl (run_fieldAddr Tryd.underlying110 rfl sz3 rfl rfl rfl) ?_
  first | refine lw_store (v := .int .i64 _) hs 0 rfl sz3 rfl rfl rfl rfl ?_ | refine lw_store (v := .int .i64 _) hs 1 rfl sz3 rfl rfl rfl rfl ?_ | refine lw_store (v := .int .i64 _) hs 2 rfl sz3 rfl rfl rfl rfl ?_ | refine lw_store (v := .int .i64 _) hs 3 rfl sz3 rfl rfl rfl rfl ?_ | refine lw_store (v := .int .i64 _) hs 4 rfl sz3 rfl rfl rfl rfl ?_ | refine lw_store (v := .int .i64 _) hs 5 rfl sz3 rfl rfl rfl rfl ?_ | refine lw_store (v := .int .i64 _) hs 6 rfl sz3 rfl rfl rfl rfl ?_ | refine lw_store (v := .int .i64 _) hs 7 rfl sz3 rfl rfl rfl rfl ?_ | refine lw_store (v := .int .i64 _) hs 8 rfl sz3 rfl rfl rfl rfl ?_ | refine lw_store (v := .int .i64 _) hs 9 rfl sz3 rfl rfl rfl rfl ?_ | refine lw_store (v := .int .i64 _) hs 10 rfl sz3 rfl rfl rfl rfl ?_ | refine lw_store (v := .int .i64 _) hs 11 rfl sz3 rfl rfl rfl rfl ?_ | refine lw_store (v := .int .i64 _) hs 12 rfl sz3 rfl rfl rfl rfl ?_ | refine lw_store (v := .int .i64 _) hs 13 rfl sz3 rfl rfl rfl rfl ?_
  clear hs
  intro w hs
  try simp only [List.set_cons_succ, List.set_cons_zero] at hs
  refine lw_nil ?_
  refine res0  rfl ?_
  exact ⟨_, rfl, rfl, Mem.closeD ho2 hs⟩
theorem read_sl (hE : ErrK ad g) (hs : Mem g w (DiskC p d :: L)) (n : ByteArray) {off m : Int} (h1 : InI64 off) (h2 : InI64 m) {k : Nat} {l : List UInt8} (hk : d.readR n off m = (k, l)) : Calls Tryd.prog 37 #[.pointer (some ⟨p, 0, none⟩), .string n, .int .i64 off, .int .i64 m] w (Ret fun v w' => ∃ a c, v = .tuple #[.slice a l.length c, errV ad k] ∧ Mem g w' (own (.slice a l.length c) (bytesL l) :: DiskC p d :: L)) := by
  obtain ⟨ho, mn, mk, sa, sc, ptr, hs⟩ := hs.openD
  have h1a := h1.1
  have h1b := h1.2
  have h2a := h2.1
  have h2b := h2.2
  refine calls_cw Tryd.func37 rfl rfl ?_
  skip
  refine cw_seq ?_
  refine cw_region ?_
  first | refine lw_val rfl (run_assign (v := .slice _ _ _) rfl) ?_
  first | refine lw_val rfl (run_assign (v := errV ad _) rfl) ?_ | refine lw_val rfl (run_assign (v := .nilIface) rfl) ?_ | refine lw_val rfl (run_assign (v := eV ad _ _) rfl) ?_ | refine lw_val rfl (run_assign (v := .iface _ (.pointer (some _))) rfl) ?_
  refine lw_nil ?_
  refine cw_seq ?_
  refine cw_region ?_
  first | refine lw_val rfl (run_move (v := .pointer (some _)) rfl) ?_ | refine lw_val rfl (run_move (v := .pointer none) rfl) ?_
  first | refine lw_val rfl (run_move (v := .string _) rfl) ?_
  refine lw_call rfl en83 (file_sl hE ho n hs) ?_
  clear hs
  rintro _ w ((⟨c, hc, h0, hr, rfl, hs⟩) | (⟨i, b, hr, hki, hb, hf, rfl, hs⟩))
  · skip
    first | refine lw_val rfl (run_move (v := .tuple _) rfl) ?_
    first | refine lw_val rfl (run_extract (v := .pointer (some _)) rfl rfl) ?_ | refine lw_val rfl (run_extract (v := .pointer none) rfl rfl) ?_
    first | refine lw_val rfl (run_extract (v := errV ad _) rfl rfl) ?_ | refine lw_val rfl (run_extract (v := .nilIface) rfl rfl) ?_ | refine lw_val rfl (run_extract (v := eV ad _ _) rfl rfl) ?_ | refine lw_val rfl (run_extract (v := .iface _ (.pointer (some _))) rfl rfl) ?_
    first | refine lw_val rfl (run_assign (v := .pointer (some _)) rfl) ?_ | refine lw_val rfl (run_assign (v := .pointer none) rfl) ?_
    first | refine lw_val rfl (run_assign (v := errV ad _) rfl) ?_ | refine lw_val rfl (run_assign (v := .nilIface) rfl) ?_ | refine lw_val rfl (run_assign (v := eV ad _ _) rfl) ?_ | refine lw_val rfl (run_assign (v := .iface _ (.pointer (some _))) rfl) ?_
    refine lw_nil ?_
    refine cw_seq ?_
    refine cw_seq ?_
    refine cw_region ?_
    first | refine lw_val rfl (run_move (v := errV ad _) rfl) ?_ | refine lw_val rfl (run_move (v := .nilIface) rfl) ?_ | refine lw_val rfl (run_move (v := eV ad _ _) rfl) ?_ | refine lw_val rfl (run_move (v := .iface _ (.pointer (some _))) rfl) ?_
    first | refine lw_val rfl (run_neerrn (ad := ad) rfl) ?_ | refine lw_val rfl (run_nenn rfl) ?_ | refine lw_val rfl (run_neE (ad := ad) rfl) ?_
    refine lw_nil ?_
    refine cw_ift rfl (by simp [h0]) ?_
    refine cw_seq ?_
    refine cw_region ?_
    first | refine lw_val rfl (run_move (v := errV ad _) rfl) ?_ | refine lw_val rfl (run_move (v := .nilIface) rfl) ?_ | refine lw_val rfl (run_move (v := eV ad _ _) rfl) ?_ | refine lw_val rfl (run_move (v := .iface _ (.pointer (some _))) rfl) ?_
    first | refine lw_val rfl (run_assign (v := .slice _ _ _) rfl) ?_
    first | refine lw_val rfl (run_assign (v := errV ad _) rfl) ?_ | refine lw_val rfl (run_assign (v := .nilIface) rfl) ?_ | refine lw_val rfl (run_assign (v := eV ad _ _) rfl) ?_ | refine lw_val rfl (run_assign (v := .iface _ (.pointer (some _))) rfl) ?_
    refine lw_nil ?_
    refine cw_ret ?_
    first | refine res2 (v := .slice _ _ _) (v2 := errV ad _) rfl rfl rfl ?_ | refine res2 (v := .slice _ _ _) (v2 := .nilIface) rfl rfl rfl ?_ | refine res2 (v := .slice _ _ _) (v2 := eV ad _ _) rfl rfl rfl ?_ | refine res2 (v := .slice _ _ _) (v2 := .iface _ (.pointer (some _))) rfl rfl rfl ?_
    simp only [Dk.readR, hr] at hk
    cases hk
    exact ⟨_, rfl, none, 0, rfl, (Mem.closeD ho hs).addE (own_nil _)⟩
  · skip
    first | refine lw_val rfl (run_move (v := .tuple _) rfl) ?_
    first | refine lw_val rfl (run_extract (v := .pointer (some _)) rfl rfl) ?_ | refine lw_val rfl (run_extract (v := .pointer none) rfl rfl) ?_
    first | refine lw_val rfl (run_extract (v := errV ad _) rfl rfl) ?_ | refine lw_val rfl (run_extract (v := .nilIface) rfl rfl) ?_ | refine lw_val rfl (run_extract (v := eV ad _ _) rfl rfl) ?_ | refine lw_val rfl (run_extract (v := .iface _ (.pointer (some _))) rfl rfl) ?_
    first | refine lw_val rfl (run_assign (v := .pointer (some _)) rfl) ?_ | refine lw_val rfl (run_assign (v := .pointer none) rfl) ?_
    first | refine lw_val rfl (run_assign (v := errV ad _) rfl) ?_ | refine lw_val rfl (run_assign (v := .nilIface) rfl) ?_ | refine lw_val rfl (run_assign (v := eV ad _ _) rfl) ?_ | refine lw_val rfl (run_assign (v := .iface _ (.pointer (some _))) rfl) ?_
    refine lw_nil ?_
    refine cw_seq ?_
    refine cw_seq ?_
    refine cw_region ?_
    first | refine lw_val rfl (run_move (v := errV ad _) rfl) ?_ | refine lw_val rfl (run_move (v := .nilIface) rfl) ?_ | refine lw_val rfl (run_move (v := eV ad _ _) rfl) ?_ | refine lw_val rfl (run_move (v := .iface _ (.pointer (some _))) rfl) ?_
    first | refine lw_val rfl (run_neerrn (ad := ad) rfl) ?_ | refine lw_val rfl (run_nenn rfl) ?_ | refine lw_val rfl (run_neE (ad := ad) rfl) ?_
    refine lw_nil ?_
    refine cw_iff rfl (rfl) ?_
    refine cw_skip ?_
    refine cw_seq ?_
    refine cw_seq ?_
    obtain ⟨fa, fc, hfc, hs⟩ := hs.openFile hb hf
    have hlen := (ho.fid _ _ hf).2.2
    refine cw_region ?_
    first | refine lw_val rfl (run_move (v := .int .i64 _) rfl) ?_
    refine lw_val rfl (run_lss rfl rfl) ?_
    first | refine lw_val rfl (run_move (v := .bool _) rfl) ?_
    refine lw_split (t := _) (d := 23) rfl ?_ ?_
    · intro h22
      have g22 := of_decide_eq_true h22
      refine lw_off rfl rfl rfl h22 ?_
      refine lw_off rfl rfl rfl h22 ?_
      first | refine lw_val rfl (run_pickT (v := .bool _) rfl h22 rfl) ?_
      first | refine lw_val rfl (run_move (v := .bool _) rfl) ?_
      refine lw_off rfl rfl rfl rfl ?_
      refine lw_off rfl rfl rfl rfl ?_
      refine lw_off rfl rfl rfl rfl ?_
      refine lw_off rfl rfl rfl rfl ?_
      refine lw_off rfl rfl rfl rfl ?_
      refine lw_off rfl rfl rfl rfl ?_
      refine lw_off rfl rfl rfl rfl ?_
      first | refine lw_val rfl (run_pickT (v := .bool _) rfl rfl rfl) ?_
      first | refine lw_val rfl (run_move (v := .bool _) rfl) ?_
      refine lw_off rfl rfl rfl rfl ?_
      refine lw_off rfl rfl rfl rfl ?_
      refine lw_off rfl rfl rfl rfl ?_
      refine lw_off rfl rfl rfl rfl ?_
      refine lw_off rfl rfl rfl rfl ?_
      refine lw_off rfl rfl rfl rfl ?_
      refine lw_off rfl rfl rfl rfl ?_
      refine lw_off rfl rfl rfl rfl ?_
      refine lw_off rfl rfl rfl rfl ?_
      first | refine lw_val rfl (run_pickT (v := .bool _) rfl rfl rfl) ?_
      refine lw_nil ?_
      refine cw_ift rfl rfl ?_
      refine cw_seq ?_
      have hs2 := Mem.shutFile hb (Mem.closeF2 rfl rfl rfl rfl hs)
      rw [aput_same hf] at hs2
      clear hs
      have hs := hs2
      clear hs2
      refine cw_drawS mixes hs ?_
      intro w tr hK
      replace hs := tr _ hs
      clear tr
      refine aw_take 0 rfl (by kernel_rfl) (by kernel_rfl) (by kernel_rfl) rfl (fun w hs => run_load Tryd.underlying30 rfl rfl (hE.cellW hs 105 (by decide) rfl)) hK ?_
      first | refine aw_take 1 rfl (by kernel_rfl) (by kernel_rfl) (by kernel_rfl) rfl (fun w hs => run_assign (v := .slice _ _ _) rfl) hK ?_
      first | refine aw_take 2 rfl (by kernel_rfl) (by kernel_rfl) (by kernel_rfl) rfl (fun w hs => run_assign (v := errV ad _) rfl) hK ?_ | refine aw_take 2 rfl (by kernel_rfl) (by kernel_rfl) (by kernel_rfl) rfl (fun w hs => run_assign (v := .nilIface) rfl) hK ?_ | refine aw_take 2 rfl (by kernel_rfl) (by kernel_rfl) (by kernel_rfl) rfl (fun w hs => run_assign (v := eV ad _ _) rfl) hK ?_ | refine aw_take 2 rfl (by kernel_rfl) (by kernel_rfl) (by kernel_rfl) rfl (fun w hs => run_assign (v := .iface _ (.pointer (some _))) rfl) hK ?_
      refine aw_done (by kernel_rfl) ?_
      clear hK
      refine cw_ret ?_
      first | refine res2 (v := .slice _ _ _) (v2 := errV ad _) rfl rfl rfl ?_ | refine res2 (v := .slice _ _ _) (v2 := .nilIface) rfl rfl rfl ?_ | refine res2 (v := .slice _ _ _) (v2 := eV ad _ _) rfl rfl rfl ?_ | refine res2 (v := .slice _ _ _) (v2 := .iface _ (.pointer (some _))) rfl rfl rfl ?_
      have e : d.readR n off m = (105, []) := by simp only [Dk.readR, hr]; rw [if_pos (by omega)]
      rw [e] at hk
      cases hk
      exact ⟨_, rfl, none, 0, rfl, (Mem.closeD ho hs).addE (own_nil _)⟩
    · intro h22
      have g22 := of_decide_eq_false h22
      refine lw_on rfl rfl h22 ?_
      first | refine lw_val rfl (run_move (v := .int .i64 _) rfl) ?_
      refine lw_on rfl rfl h22 ?_
      refine lw_val rfl (run_lss rfl rfl) ?_
      first | refine lw_val rfl (run_pickF (v := .bool _) rfl h22 rfl) ?_
      first | refine lw_val rfl (run_move (v := .bool _) rfl) ?_
      refine lw_split (t := _) (d := 27) rfl ?_ ?_
      · intro h25
        have g25 := of_decide_eq_true h25
        refine lw_off rfl rfl rfl h25 ?_
        refine lw_off rfl rfl rfl h25 ?_
        refine lw_off rfl rfl rfl h25 ?_
        refine lw_off rfl rfl rfl h25 ?_
        refine lw_off rfl rfl rfl h25 ?_
        refine lw_off rfl rfl rfl h25 ?_
        refine lw_off rfl rfl rfl h25 ?_
        first | refine lw_val rfl (run_pickT (v := .bool _) rfl h25 rfl) ?_
        first | refine lw_val rfl (run_move (v := .bool _) rfl) ?_
        refine lw_off rfl rfl rfl rfl ?_
        refine lw_off rfl rfl rfl rfl ?_
        refine lw_off rfl rfl rfl rfl ?_
        refine lw_off rfl rfl rfl rfl ?_
        refine lw_off rfl rfl rfl rfl ?_
        refine lw_off rfl rfl rfl rfl ?_
        refine lw_off rfl rfl rfl rfl ?_
        refine lw_off rfl rfl rfl rfl ?_
        refine lw_off rfl rfl rfl rfl ?_
        first | refine lw_val rfl (run_pickT (v := .bool _) rfl rfl rfl) ?_
        refine lw_nil ?_
        refine cw_ift rfl rfl ?_
        refine cw_seq ?_
        have hs2 := Mem.shutFile hb (Mem.closeF2 rfl rfl rfl rfl hs)
        rw [aput_same hf] at hs2
        clear hs
        have hs := hs2
        clear hs2
        refine cw_drawS mixes hs ?_
        intro w tr hK
        replace hs := tr _ hs
        clear tr
        refine aw_take 0 rfl (by kernel_rfl) (by kernel_rfl) (by kernel_rfl) rfl (fun w hs => run_load Tryd.underlying30 rfl rfl (hE.cellW hs 105 (by decide) rfl)) hK ?_
        first | refine aw_take 1 rfl (by kernel_rfl) (by kernel_rfl) (by kernel_rfl) rfl (fun w hs => run_assign (v := .slice _ _ _) rfl) hK ?_
        first | refine aw_take 2 rfl (by kernel_rfl) (by kernel_rfl) (by kernel_rfl) rfl (fun w hs => run_assign (v := errV ad _) rfl) hK ?_ | refine aw_take 2 rfl (by kernel_rfl) (by kernel_rfl) (by kernel_rfl) rfl (fun w hs => run_assign (v := .nilIface) rfl) hK ?_ | refine aw_take 2 rfl (by kernel_rfl) (by kernel_rfl) (by kernel_rfl) rfl (fun w hs => run_assign (v := eV ad _ _) rfl) hK ?_ | refine aw_take 2 rfl (by kernel_rfl) (by kernel_rfl) (by kernel_rfl) rfl (fun w hs => run_assign (v := .iface _ (.pointer (some _))) rfl) hK ?_
        refine aw_done (by kernel_rfl) ?_
        clear hK
        refine cw_ret ?_
        first | refine res2 (v := .slice _ _ _) (v2 := errV ad _) rfl rfl rfl ?_ | refine res2 (v := .slice _ _ _) (v2 := .nilIface) rfl rfl rfl ?_ | refine res2 (v := .slice _ _ _) (v2 := eV ad _ _) rfl rfl rfl ?_ | refine res2 (v := .slice _ _ _) (v2 := .iface _ (.pointer (some _))) rfl rfl rfl ?_
        have e : d.readR n off m = (105, []) := by simp only [Dk.readR, hr]; rw [if_pos (by omega)]
        rw [e] at hk
        cases hk
        exact ⟨_, rfl, none, 0, rfl, (Mem.closeD ho hs).addE (own_nil _)⟩
      · intro h25
        have g25 := of_decide_eq_false h25
        refine lw_on rfl rfl h25 ?_
        first | refine lw_val rfl (run_move (v := .int .i64 _) rfl) ?_
        refine lw_on rfl rfl h25 ?_
        first | refine lw_val rfl (run_move (v := .pointer (some _)) rfl) ?_ | refine lw_val rfl (run_move (v := .pointer none) rfl) ?_
        refine lw_on rfl rfl h25 ?_
        refine lw_val rfl (run_nilCheckP rfl) ?_
        refine lw_on rfl rfl h25 ?_
        first | refine lw_val rfl (run_fieldAddr (o' := 1) Tryd.underlying115 rfl sz23 rfl rfl rfl) ?_ | refine lw_val rfl (run_fieldAddr Tryd.underlying115 rfl sz23 rfl rfl rfl) ?_
        refine lw_on rfl rfl h25 ?_
        first | refine lw_val rfl (run_load Tryd.underlying23 rfl rfl (hs.cellAt 0 rfl rfl)) ?_ | refine lw_val rfl (run_load Tryd.underlying23 rfl rfl (hs.cellAt 1 rfl rfl)) ?_ | refine lw_val rfl (run_load Tryd.underlying23 rfl rfl (hs.cellAt 2 rfl rfl)) ?_ | refine lw_val rfl (run_load Tryd.underlying23 rfl rfl (hs.cellAt 3 rfl rfl)) ?_ | refine lw_val rfl (run_load Tryd.underlying23 rfl rfl (hs.cellAt 4 rfl rfl)) ?_ | refine lw_val rfl (run_load Tryd.underlying23 rfl rfl (hs.cellAt 5 rfl rfl)) ?_ | refine lw_val rfl (run_load Tryd.underlying23 rfl rfl (hs.cellAt 6 rfl rfl)) ?_ | refine lw_val rfl (run_load Tryd.underlying23 rfl rfl (hs.cellAt 7 rfl rfl)) ?_ | refine lw_val rfl (run_load Tryd.underlying23 rfl rfl (hs.cellAt 8 rfl rfl)) ?_ | refine lw_val rfl (run_load Tryd.underlying23 rfl rfl (hs.cellAt 9 rfl rfl)) ?_ | refine lw_val rfl (run_load Tryd.underlying23 rfl rfl (hs.cellAt 10 rfl rfl)) ?_ | refine lw_val rfl (run_load Tryd.underlying23 rfl rfl (hs.cellAt 11 rfl rfl)) ?_ | refine lw_val rfl (run_load Tryd.underlying23 rfl rfl (hs.cellAt 12 rfl rfl)) ?_ | refine lw_val rfl (run_load Tryd.underlying23 rfl rfl (hs.cellAt 13 rfl rfl)) ?_
        refine lw_on rfl rfl h25 ?_
        refine lw_val rfl (run_lenS Tryd.underlying23 rfl) ?_
        refine lw_on rfl rfl h25 ?_
        refine lw_val rfl (run_gtr rfl rfl) ?_
        first | refine lw_val rfl (run_pickF (v := .bool _) rfl h25 rfl) ?_
        first | refine lw_val rfl (run_move (v := .bool _) rfl) ?_
        refine lw_split (t := _) (d := 36) rfl ?_ ?_
        · intro h34
          have g34 := of_decide_eq_true h34
          refine lw_off rfl rfl rfl h34 ?_
          refine lw_off rfl rfl rfl h34 ?_
          refine lw_off rfl rfl rfl h34 ?_
          refine lw_off rfl rfl rfl h34 ?_
          refine lw_off rfl rfl rfl h34 ?_
          refine lw_off rfl rfl rfl h34 ?_
          refine lw_off rfl rfl rfl h34 ?_
          refine lw_off rfl rfl rfl h34 ?_
          refine lw_off rfl rfl rfl h34 ?_
          first | refine lw_val rfl (run_pickT (v := .bool _) rfl h34 rfl) ?_
          refine lw_nil ?_
          refine cw_ift rfl rfl ?_
          refine cw_seq ?_
          have hs2 := Mem.shutFile hb (Mem.closeF2 rfl rfl rfl rfl hs)
          rw [aput_same hf] at hs2
          clear hs
          have hs := hs2
          clear hs2
          refine cw_drawS mixes hs ?_
          intro w tr hK
          replace hs := tr _ hs
          clear tr
          refine aw_take 0 rfl (by kernel_rfl) (by kernel_rfl) (by kernel_rfl) rfl (fun w hs => run_load Tryd.underlying30 rfl rfl (hE.cellW hs 105 (by decide) rfl)) hK ?_
          first | refine aw_take 1 rfl (by kernel_rfl) (by kernel_rfl) (by kernel_rfl) rfl (fun w hs => run_assign (v := .slice _ _ _) rfl) hK ?_
          first | refine aw_take 2 rfl (by kernel_rfl) (by kernel_rfl) (by kernel_rfl) rfl (fun w hs => run_assign (v := errV ad _) rfl) hK ?_ | refine aw_take 2 rfl (by kernel_rfl) (by kernel_rfl) (by kernel_rfl) rfl (fun w hs => run_assign (v := .nilIface) rfl) hK ?_ | refine aw_take 2 rfl (by kernel_rfl) (by kernel_rfl) (by kernel_rfl) rfl (fun w hs => run_assign (v := eV ad _ _) rfl) hK ?_ | refine aw_take 2 rfl (by kernel_rfl) (by kernel_rfl) (by kernel_rfl) rfl (fun w hs => run_assign (v := .iface _ (.pointer (some _))) rfl) hK ?_
          refine aw_done (by kernel_rfl) ?_
          clear hK
          refine cw_ret ?_
          first | refine res2 (v := .slice _ _ _) (v2 := errV ad _) rfl rfl rfl ?_ | refine res2 (v := .slice _ _ _) (v2 := .nilIface) rfl rfl rfl ?_ | refine res2 (v := .slice _ _ _) (v2 := eV ad _ _) rfl rfl rfl ?_ | refine res2 (v := .slice _ _ _) (v2 := .iface _ (.pointer (some _))) rfl rfl rfl ?_
          have e : d.readR n off m = (105, []) := by simp only [Dk.readR, hr]; rw [if_pos (by omega)]
          rw [e] at hk
          cases hk
          exact ⟨_, rfl, none, 0, rfl, (Mem.closeD ho hs).addE (own_nil _)⟩
        · intro h34
          have g34 := of_decide_eq_false h34
          refine lw_on rfl rfl h34 ?_
          first | refine lw_val rfl (run_move (v := .int .i64 _) rfl) ?_
          refine lw_on rfl rfl h34 ?_
          first | refine lw_val rfl (run_move (v := .pointer (some _)) rfl) ?_ | refine lw_val rfl (run_move (v := .pointer none) rfl) ?_
          refine lw_on rfl rfl h34 ?_
          refine lw_val rfl (run_nilCheckP rfl) ?_
          refine lw_on rfl rfl h34 ?_
          first | refine lw_val rfl (run_fieldAddr (o' := 1) Tryd.underlying115 rfl sz23 rfl rfl rfl) ?_ | refine lw_val rfl (run_fieldAddr Tryd.underlying115 rfl sz23 rfl rfl rfl) ?_
          refine lw_on rfl rfl h34 ?_
          first | refine lw_val rfl (run_load Tryd.underlying23 rfl rfl (hs.cellAt 0 rfl rfl)) ?_ | refine lw_val rfl (run_load Tryd.underlying23 rfl rfl (hs.cellAt 1 rfl rfl)) ?_ | refine lw_val rfl (run_load Tryd.underlying23 rfl rfl (hs.cellAt 2 rfl rfl)) ?_ | refine lw_val rfl (run_load Tryd.underlying23 rfl rfl (hs.cellAt 3 rfl rfl)) ?_ | refine lw_val rfl (run_load Tryd.underlying23 rfl rfl (hs.cellAt 4 rfl rfl)) ?_ | refine lw_val rfl (run_load Tryd.underlying23 rfl rfl (hs.cellAt 5 rfl rfl)) ?_ | refine lw_val rfl (run_load Tryd.underlying23 rfl rfl (hs.cellAt 6 rfl rfl)) ?_ | refine lw_val rfl (run_load Tryd.underlying23 rfl rfl (hs.cellAt 7 rfl rfl)) ?_ | refine lw_val rfl (run_load Tryd.underlying23 rfl rfl (hs.cellAt 8 rfl rfl)) ?_ | refine lw_val rfl (run_load Tryd.underlying23 rfl rfl (hs.cellAt 9 rfl rfl)) ?_ | refine lw_val rfl (run_load Tryd.underlying23 rfl rfl (hs.cellAt 10 rfl rfl)) ?_ | refine lw_val rfl (run_load Tryd.underlying23 rfl rfl (hs.cellAt 11 rfl rfl)) ?_ | refine lw_val rfl (run_load Tryd.underlying23 rfl rfl (hs.cellAt 12 rfl rfl)) ?_ | refine lw_val rfl (run_load Tryd.underlying23 rfl rfl (hs.cellAt 13 rfl rfl)) ?_
          refine lw_on rfl rfl h34 ?_
          refine lw_val rfl (run_lenS Tryd.underlying23 rfl) ?_
          refine lw_on rfl rfl h34 ?_
          first | refine lw_val rfl (run_move (v := .int .i64 _) rfl) ?_
          refine lw_on rfl rfl h34 ?_
          refine lw_val rfl (run_sub64 rfl rfl rfl (inI (by omega) (by omega))) ?_
          refine lw_on rfl rfl h34 ?_
          refine lw_val rfl (run_gtr rfl rfl) ?_
          first | refine lw_val rfl (run_pickF (v := .bool _) rfl h34 rfl) ?_
          refine lw_nil ?_
          refine cw_if rfl ?_ ?_
          · intro h45
            have g45 := of_decide_eq_true h45
            refine cw_seq ?_
            have hs2 := Mem.shutFile hb (Mem.closeF2 rfl rfl rfl rfl hs)
            rw [aput_same hf] at hs2
            clear hs
            have hs := hs2
            clear hs2
            refine cw_drawS mixes hs ?_
            intro w tr hK
            replace hs := tr _ hs
            clear tr
            refine aw_take 0 rfl (by kernel_rfl) (by kernel_rfl) (by kernel_rfl) rfl (fun w hs => run_load Tryd.underlying30 rfl rfl (hE.cellW hs 105 (by decide) rfl)) hK ?_
            first | refine aw_take 1 rfl (by kernel_rfl) (by kernel_rfl) (by kernel_rfl) rfl (fun w hs => run_assign (v := .slice _ _ _) rfl) hK ?_
            first | refine aw_take 2 rfl (by kernel_rfl) (by kernel_rfl) (by kernel_rfl) rfl (fun w hs => run_assign (v := errV ad _) rfl) hK ?_ | refine aw_take 2 rfl (by kernel_rfl) (by kernel_rfl) (by kernel_rfl) rfl (fun w hs => run_assign (v := .nilIface) rfl) hK ?_ | refine aw_take 2 rfl (by kernel_rfl) (by kernel_rfl) (by kernel_rfl) rfl (fun w hs => run_assign (v := eV ad _ _) rfl) hK ?_ | refine aw_take 2 rfl (by kernel_rfl) (by kernel_rfl) (by kernel_rfl) rfl (fun w hs => run_assign (v := .iface _ (.pointer (some _))) rfl) hK ?_
            refine aw_done (by kernel_rfl) ?_
            clear hK
            refine cw_ret ?_
            first | refine res2 (v := .slice _ _ _) (v2 := errV ad _) rfl rfl rfl ?_ | refine res2 (v := .slice _ _ _) (v2 := .nilIface) rfl rfl rfl ?_ | refine res2 (v := .slice _ _ _) (v2 := eV ad _ _) rfl rfl rfl ?_ | refine res2 (v := .slice _ _ _) (v2 := .iface _ (.pointer (some _))) rfl rfl rfl ?_
            have e : d.readR n off m = (105, []) := by simp only [Dk.readR, hr]; rw [if_pos (by omega)]
            rw [e] at hk
            cases hk
            exact ⟨_, rfl, none, 0, rfl, (Mem.closeD ho hs).addE (own_nil _)⟩
          · intro h45
            have g45 := of_decide_eq_false h45
            refine cw_skip ?_
            refine cw_seq ?_
            refine cw_region ?_
            first | refine lw_val rfl (run_move (v := .pointer (some _)) rfl) ?_ | refine lw_val rfl (run_move (v := .pointer none) rfl) ?_
            refine lw_val rfl (run_nilCheckP rfl) ?_
            first | refine lw_val rfl (run_fieldAddr (o' := 1) Tryd.underlying115 rfl sz23 rfl rfl rfl) ?_ | refine lw_val rfl (run_fieldAddr Tryd.underlying115 rfl sz23 rfl rfl rfl) ?_
            first | refine lw_val rfl (run_load Tryd.underlying23 rfl rfl (hs.cellAt 0 rfl rfl)) ?_ | refine lw_val rfl (run_load Tryd.underlying23 rfl rfl (hs.cellAt 1 rfl rfl)) ?_ | refine lw_val rfl (run_load Tryd.underlying23 rfl rfl (hs.cellAt 2 rfl rfl)) ?_ | refine lw_val rfl (run_load Tryd.underlying23 rfl rfl (hs.cellAt 3 rfl rfl)) ?_ | refine lw_val rfl (run_load Tryd.underlying23 rfl rfl (hs.cellAt 4 rfl rfl)) ?_ | refine lw_val rfl (run_load Tryd.underlying23 rfl rfl (hs.cellAt 5 rfl rfl)) ?_ | refine lw_val rfl (run_load Tryd.underlying23 rfl rfl (hs.cellAt 6 rfl rfl)) ?_ | refine lw_val rfl (run_load Tryd.underlying23 rfl rfl (hs.cellAt 7 rfl rfl)) ?_ | refine lw_val rfl (run_load Tryd.underlying23 rfl rfl (hs.cellAt 8 rfl rfl)) ?_ | refine lw_val rfl (run_load Tryd.underlying23 rfl rfl (hs.cellAt 9 rfl rfl)) ?_ | refine lw_val rfl (run_load Tryd.underlying23 rfl rfl (hs.cellAt 10 rfl rfl)) ?_ | refine lw_val rfl (run_load Tryd.underlying23 rfl rfl (hs.cellAt 11 rfl rfl)) ?_ | refine lw_val rfl (run_load Tryd.underlying23 rfl rfl (hs.cellAt 12 rfl rfl)) ?_ | refine lw_val rfl (run_load Tryd.underlying23 rfl rfl (hs.cellAt 13 rfl rfl)) ?_
            first | refine lw_val rfl (run_move (v := .int .i64 _) rfl) ?_
            first | refine lw_val rfl (run_move (v := .int .i64 _) rfl) ?_
            first | refine lw_val rfl (run_move (v := .int .i64 _) rfl) ?_
            refine lw_val rfl (run_add64 rfl rfl rfl (inI (by omega) (by omega))) ?_
            refine lw_val rfl (run_slice Tryd.underlying23 sz5 rfl rfl rfl (lo := off.toNat) (hi := off.toNat + m.toNat) (by omega) (by omega) (by omega) (by omega)) ?_
            refine lw_call rfl en84 (clone_sl hs (l := ((d.fl i).b.take (off.toNat + m.toNat)).drop off.toNat) ((hs.rdOwn 1 rfl).subB (by omega) (by omega)) (by simp; omega)) ?_
            clear hs
            rintro _ w ⟨a57, c57, rfl, hs⟩
            first | refine lw_val rfl (run_assign (v := .slice _ _ _) rfl) ?_
            first | refine lw_val rfl (run_assign (v := errV ad _) rfl) ?_ | refine lw_val rfl (run_assign (v := .nilIface) rfl) ?_ | refine lw_val rfl (run_assign (v := eV ad _ _) rfl) ?_ | refine lw_val rfl (run_assign (v := .iface _ (.pointer (some _))) rfl) ?_
            refine lw_nil ?_
            refine cw_ret ?_
            first | refine res2 (v := .slice _ _ _) (v2 := errV ad _) rfl rfl rfl ?_ | refine res2 (v := .slice _ _ _) (v2 := .nilIface) rfl rfl rfl ?_ | refine res2 (v := .slice _ _ _) (v2 := eV ad _ _) rfl rfl rfl ?_ | refine res2 (v := .slice _ _ _) (v2 := .iface _ (.pointer (some _))) rfl rfl rfl ?_
            have e : d.readR n off m = (0, ((d.fl i).b.take (off.toNat + m.toNat)).drop off.toNat) := by simp only [Dk.readR, hr]; rw [if_neg (by omega)]
            rw [e] at hk
            cases hk
            rw [bytesL_len] at hs ⊢
            refine ⟨_, rfl, a57, c57, by rw [errV_zero], ?_⟩
            have hs2 := Mem.shutFile hb (Mem.closeF2 (L := _ :: _ :: _ :: _ :: _ :: own (.slice a57 _ c57) _ :: L) rfl rfl rfl rfl (hs.arr [1, 2, 3, 4, 5, 6, 7, 0] 8 (by decide)))
            rw [aput_same hf] at hs2
            exact (Mem.closeD (L := own (.slice a57 _ c57) _ :: L) ho hs2).arr [1, 0] 2 (by decide)

/-! ### what changes -/
theorem sync_sl (hE : ErrK ad g) (hs : Mem g w (DiskC p d :: L)) (hcl : d.calls < 1000000) (n : ByteArray) {k : Nat} {d2 : Dk} (hk : d.sync n = (k, d2)) : Calls Tryd.prog 51 #[.pointer (some ⟨p, 0, none⟩), .string n] w (Ret fun v w' => v = errV ad k ∧ Mem g w' (DiskC p d2 :: L)) := by
  obtain ⟨ho, mn, mk, sa, sc, ptr, hs⟩ := hs.openD
  obtain ⟨c0, o, d1, hfd⟩ : ∃ c0 o d1, d.find n = (c0, o, d1) := ⟨_, _, _, rfl⟩
  have hb := d.begin_same
  rw [← Dk.find_dk hfd] at hb
  have ho1 := ho.find hfd
  refine calls_cw Tryd.func51 rfl rfl ?_
  skip
  refine cw_seq ?_
  refine cw_region ?_
  first | refine lw_val rfl (run_assign (v := errV ad _) rfl) ?_ | refine lw_val rfl (run_assign (v := .nilIface) rfl) ?_ | refine lw_val rfl (run_assign (v := eV ad _ _) rfl) ?_ | refine lw_val rfl (run_assign (v := .iface _ (.pointer (some _))) rfl) ?_
  refine lw_nil ?_
  refine cw_seq ?_
  refine cw_region ?_
  first | refine lw_val rfl (run_move (v := .pointer (some _)) rfl) ?_ | refine lw_val rfl (run_move (v := .pointer none) rfl) ?_
  first | refine lw_val rfl (run_move (v := .string _) rfl) ?_
  refine lw_call rfl en79 (find_sl hE ho n hs hfd) ?_
  clear hs
  rintro _ w ((⟨c, hc, h0, hr, rfl, hs⟩) | (⟨i, b, hr, hki, hb2, hf, rfl, hs⟩))
  · skip
    first | refine lw_val rfl (run_move (v := .tuple _) rfl) ?_
    first | refine lw_val rfl (run_extract (v := .pointer (some _)) rfl rfl) ?_ | refine lw_val rfl (run_extract (v := .pointer none) rfl rfl) ?_
    first | refine lw_val rfl (run_extract (v := errV ad _) rfl rfl) ?_ | refine lw_val rfl (run_extract (v := .nilIface) rfl rfl) ?_ | refine lw_val rfl (run_extract (v := eV ad _ _) rfl rfl) ?_ | refine lw_val rfl (run_extract (v := .iface _ (.pointer (some _))) rfl rfl) ?_
    first | refine lw_val rfl (run_assign (v := .pointer (some _)) rfl) ?_ | refine lw_val rfl (run_assign (v := .pointer none) rfl) ?_
    first | refine lw_val rfl (run_assign (v := errV ad _) rfl) ?_ | refine lw_val rfl (run_assign (v := .nilIface) rfl) ?_ | refine lw_val rfl (run_assign (v := eV ad _ _) rfl) ?_ | refine lw_val rfl (run_assign (v := .iface _ (.pointer (some _))) rfl) ?_
    refine lw_nil ?_
    refine cw_seq ?_
    refine cw_seq ?_
    refine cw_region ?_
    first | refine lw_val rfl (run_move (v := errV ad _) rfl) ?_ | refine lw_val rfl (run_move (v := .nilIface) rfl) ?_ | refine lw_val rfl (run_move (v := eV ad _ _) rfl) ?_ | refine lw_val rfl (run_move (v := .iface _ (.pointer (some _))) rfl) ?_
    first | refine lw_val rfl (run_neerrn (ad := ad) rfl) ?_ | refine lw_val rfl (run_nenn rfl) ?_ | refine lw_val rfl (run_neE (ad := ad) rfl) ?_
    refine lw_nil ?_
    refine cw_ift rfl (by simp [h0]) ?_
    refine cw_seq ?_
    refine cw_region ?_
    first | refine lw_val rfl (run_move (v := errV ad _) rfl) ?_ | refine lw_val rfl (run_move (v := .nilIface) rfl) ?_ | refine lw_val rfl (run_move (v := eV ad _ _) rfl) ?_ | refine lw_val rfl (run_move (v := .iface _ (.pointer (some _))) rfl) ?_
    first | refine lw_val rfl (run_assign (v := errV ad _) rfl) ?_ | refine lw_val rfl (run_assign (v := .nilIface) rfl) ?_ | refine lw_val rfl (run_assign (v := eV ad _ _) rfl) ?_ | refine lw_val rfl (run_assign (v := .iface _ (.pointer (some _))) rfl) ?_
    refine lw_nil ?_
    refine cw_ret ?_
    first | refine res1 (v := errV ad _) rfl rfl ?_ | refine res1 (v := .nilIface) rfl rfl ?_ | refine res1 (v := eV ad _ _) rfl rfl ?_ | refine res1 (v := .iface _ (.pointer (some _))) rfl rfl ?_
    cases hr
    simp only [Dk.sync, hfd] at hk
    cases hk
    exact ⟨_, rfl, rfl, Mem.closeD ho1 hs⟩
  · skip
    first | refine lw_val rfl (run_move (v := .tuple _) rfl) ?_
    first | refine lw_val rfl (run_extract (v := .pointer (some _)) rfl rfl) ?_ | refine lw_val rfl (run_extract (v := .pointer none) rfl rfl) ?_
    first | refine lw_val rfl (run_extract (v := errV ad _) rfl rfl) ?_ | refine lw_val rfl (run_extract (v := .nilIface) rfl rfl) ?_ | refine lw_val rfl (run_extract (v := eV ad _ _) rfl rfl) ?_ | refine lw_val rfl (run_extract (v := .iface _ (.pointer (some _))) rfl rfl) ?_
    first | refine lw_val rfl (run_assign (v := .pointer (some _)) rfl) ?_ | refine lw_val rfl (run_assign (v := .pointer none) rfl) ?_
    first | refine lw_val rfl (run_assign (v := errV ad _) rfl) ?_ | refine lw_val rfl (run_assign (v := .nilIface) rfl) ?_ | refine lw_val rfl (run_assign (v := eV ad _ _) rfl) ?_ | refine lw_val rfl (run_assign (v := .iface _ (.pointer (some _))) rfl) ?_
    refine lw_nil ?_
    refine cw_seq ?_
    refine cw_seq ?_
    refine cw_region ?_
    first | refine lw_val rfl (run_move (v := errV ad _) rfl) ?_ | refine lw_val rfl (run_move (v := .nilIface) rfl) ?_ | refine lw_val rfl (run_move (v := eV ad _ _) rfl) ?_ | refine lw_val rfl (run_move (v := .iface _ (.pointer (some _))) rfl) ?_
    first | refine lw_val rfl (run_neerrn (ad := ad) rfl) ?_ | refine lw_val rfl (run_nenn rfl) ?_ | refine lw_val rfl (run_neE (ad := ad) rfl) ?_
    refine lw_nil ?_
    refine cw_iff rfl (rfl) ?_
    refine cw_skip ?_
    refine cw_seq ?_
    cases hr
    simp only [Dk.sync, hfd] at hk
    cases hk
    obtain ⟨fa, fc, hfc, hs⟩ := hs.openFile hb2 hf
    have hfl := ho1.fid _ _ hf
    refine cw_region ?_
    first | refine lw_val rfl (run_move (v := .pointer (some _)) rfl) ?_ | refine lw_val rfl (run_move (v := .pointer none) rfl) ?_
    first | refine lw_val rfl (run_move (v := .pointer (some _)) rfl) ?_ | refine lw_val rfl (run_move (v := .pointer none) rfl) ?_
    refine lw_val rfl (run_nilCheckP rfl) ?_
    first | refine lw_val rfl (run_fieldAddr (o' := 1) Tryd.underlying115 rfl sz23 rfl rfl rfl) ?_ | refine lw_val rfl (run_fieldAddr Tryd.underlying115 rfl sz23 rfl rfl rfl) ?_
    first | refine lw_val rfl (run_load Tryd.underlying23 rfl rfl (hs.cellAt 0 rfl rfl)) ?_ | refine lw_val rfl (run_load Tryd.underlying23 rfl rfl (hs.cellAt 1 rfl rfl)) ?_ | refine lw_val rfl (run_load Tryd.underlying23 rfl rfl (hs.cellAt 2 rfl rfl)) ?_ | refine lw_val rfl (run_load Tryd.underlying23 rfl rfl (hs.cellAt 3 rfl rfl)) ?_ | refine lw_val rfl (run_load Tryd.underlying23 rfl rfl (hs.cellAt 4 rfl rfl)) ?_ | refine lw_val rfl (run_load Tryd.underlying23 rfl rfl (hs.cellAt 5 rfl rfl)) ?_ | refine lw_val rfl (run_load Tryd.underlying23 rfl rfl (hs.cellAt 6 rfl rfl)) ?_ | refine lw_val rfl (run_load Tryd.underlying23 rfl rfl (hs.cellAt 7 rfl rfl)) ?_ | refine lw_val rfl (run_load Tryd.underlying23 rfl rfl (hs.cellAt 8 rfl rfl)) ?_ | refine lw_val rfl (run_load Tryd.underlying23 rfl rfl (hs.cellAt 9 rfl rfl)) ?_ | refine lw_val rfl (run_load Tryd.underlying23 rfl rfl (hs.cellAt 10 rfl rfl)) ?_ | refine lw_val rfl (run_load Tryd.underlying23 rfl rfl (hs.cellAt 11 rfl rfl)) ?_ | refine lw_val rfl (run_load Tryd.underlying23 rfl rfl (hs.cellAt 12 rfl rfl)) ?_ | refine lw_val rfl (run_load Tryd.underlying23 rfl rfl (hs.cellAt 13 rfl rfl)) ?_
    refine lw_val rfl (run_lenS Tryd.underlying23 rfl) ?_
    refine lw_val rfl (run_nilCheckP rfl) ?_
    first | refine lw_val rfl (run_fieldAddr (o' := 2) Tryd.underlying115 rfl sz3 rfl rfl rfl) ?_ | refine lw_val rfl (run_fieldAddr Tryd.underlying115 rfl sz3 rfl rfl rfl) ?_
    first | refine lw_store (v := .int .i64 _) hs 0 rfl sz3 rfl rfl rfl rfl ?_ | refine lw_store (v := .int .i64 _) hs 1 rfl sz3 rfl rfl rfl rfl ?_ | refine lw_store (v := .int .i64 _) hs 2 rfl sz3 rfl rfl rfl rfl ?_ | refine lw_store (v := .int .i64 _) hs 3 rfl sz3 rfl rfl rfl rfl ?_ | refine lw_store (v := .int .i64 _) hs 4 rfl sz3 rfl rfl rfl rfl ?_ | refine lw_store (v := .int .i64 _) hs 5 rfl sz3 rfl rfl rfl rfl ?_ | refine lw_store (v := .int .i64 _) hs 6 rfl sz3 rfl rfl rfl rfl ?_ | refine lw_store (v := .int .i64 _) hs 7 rfl sz3 rfl rfl rfl rfl ?_ | refine lw_store (v := .int .i64 _) hs 8 rfl sz3 rfl rfl rfl rfl ?_ | refine lw_store (v := .int .i64 _) hs 9 rfl sz3 rfl rfl rfl rfl ?_ | refine lw_store (v := .int .i64 _) hs 10 rfl sz3 rfl rfl rfl rfl ?_ | refine lw_store (v := .int .i64 _) hs 11 rfl sz3 rfl rfl rfl rfl ?_ | refine lw_store (v := .int .i64 _) hs 12 rfl sz3 rfl rfl rfl rfl ?_ | refine lw_store (v := .int .i64 _) hs 13 rfl sz3 rfl rfl rfl rfl ?_
    clear hs
    intro w hs
    try simp only [List.set_cons_succ, List.set_cons_zero] at hs
    refine lw_nil ?_
    refine cw_seq ?_
    refine cw_region ?_
    first | refine lw_val rfl (run_move (v := .pointer (some _)) rfl) ?_ | refine lw_val rfl (run_move (v := .pointer none) rfl) ?_
    refine lw_val rfl (run_nilCheckP rfl) ?_
    first | refine lw_val rfl (run_fieldAddr (o' := 7) Tryd.underlying110 rfl sz3 rfl rfl rfl) ?_ | refine lw_val rfl (run_fieldAddr Tryd.underlying110 rfl sz3 rfl rfl rfl) ?_
    first | refine lw_val rfl (run_load Tryd.underlying3 rfl rfl (hs.cellAt 0 rfl rfl)) ?_ | refine lw_val rfl (run_load Tryd.underlying3 rfl rfl (hs.cellAt 1 rfl rfl)) ?_ | refine lw_val rfl (run_load Tryd.underlying3 rfl rfl (hs.cellAt 2 rfl rfl)) ?_ | refine lw_val rfl (run_load Tryd.underlying3 rfl rfl (hs.cellAt 3 rfl rfl)) ?_ | refine lw_val rfl (run_load Tryd.underlying3 rfl rfl (hs.cellAt 4 rfl rfl)) ?_ | refine lw_val rfl (run_load Tryd.underlying3 rfl rfl (hs.cellAt 5 rfl rfl)) ?_ | refine lw_val rfl (run_load Tryd.underlying3 rfl rfl (hs.cellAt 6 rfl rfl)) ?_ | refine lw_val rfl (run_load Tryd.underlying3 rfl rfl (hs.cellAt 7 rfl rfl)) ?_ | refine lw_val rfl (run_load Tryd.underlying3 rfl rfl (hs.cellAt 8 rfl rfl)) ?_ | refine lw_val rfl (run_load Tryd.underlying3 rfl rfl (hs.cellAt 9 rfl rfl)) ?_ | refine lw_val rfl (run_load Tryd.underlying3 rfl rfl (hs.cellAt 10 rfl rfl)) ?_ | refine lw_val rfl (run_load Tryd.underlying3 rfl rfl (hs.cellAt 11 rfl rfl)) ?_ | refine lw_val rfl (run_load Tryd.underlying3 rfl rfl (hs.cellAt 12 rfl rfl)) ?_ | refine lw_val rfl (run_load Tryd.underlying3 rfl rfl (hs.cellAt 13 rfl rfl)) ?_
    refine lw_val rfl (run_add64 rfl rfl rfl (inI (by omega) (by omega))) ?_
    refine lw_val rfl (run_nilCheckP rfl) ?_
    first | refine lw_val rfl (run_fieldAddr (o' := 7) Tryd.underlying110 rfl sz3 rfl rfl rfl) ?_ | refine lw_val rfl (run_fieldAddr Tryd.underlying110 rfl sz3 rfl rfl rfl) ?_
    first | refine lw_store (v := .int .i64 _) hs 0 rfl sz3 rfl rfl rfl rfl ?_ | refine lw_store (v := .int .i64 _) hs 1 rfl sz3 rfl rfl rfl rfl ?_ | refine lw_store (v := .int .i64 _) hs 2 rfl sz3 rfl rfl rfl rfl ?_ | refine lw_store (v := .int .i64 _) hs 3 rfl sz3 rfl rfl rfl rfl ?_ | refine lw_store (v := .int .i64 _) hs 4 rfl sz3 rfl rfl rfl rfl ?_ | refine lw_store (v := .int .i64 _) hs 5 rfl sz3 rfl rfl rfl rfl ?_ | refine lw_store (v := .int .i64 _) hs 6 rfl sz3 rfl rfl rfl rfl ?_ | refine lw_store (v := .int .i64 _) hs 7 rfl sz3 rfl rfl rfl rfl ?_ | refine lw_store (v := .int .i64 _) hs 8 rfl sz3 rfl rfl rfl rfl ?_ | refine lw_store (v := .int .i64 _) hs 9 rfl sz3 rfl rfl rfl rfl ?_ | refine lw_store (v := .int .i64 _) hs 10 rfl sz3 rfl rfl rfl rfl ?_ | refine lw_store (v := .int .i64 _) hs 11 rfl sz3 rfl rfl rfl rfl ?_ | refine lw_store (v := .int .i64 _) hs 12 rfl sz3 rfl rfl rfl rfl ?_ | refine lw_store (v := .int .i64 _) hs 13 rfl sz3 rfl rfl rfl rfl ?_
    clear hs
    intro w hs
    try simp only [List.set_cons_succ, List.set_cons_zero] at hs
    refine lw_nil ?_
    refine cw_seq ?_
    refine cw_region ?_
    first | refine lw_val rfl (run_assign (v := errV ad _) rfl) ?_ | refine lw_val rfl (run_assign (v := .nilIface) rfl) ?_ | refine lw_val rfl (run_assign (v := eV ad _ _) rfl) ?_ | refine lw_val rfl (run_assign (v := .iface _ (.pointer (some _))) rfl) ?_
    refine lw_nil ?_
    refine cw_ret ?_
    first | refine res1 (v := errV ad _) rfl rfl ?_ | refine res1 (v := .nilIface) rfl rfl ?_ | refine res1 (v := eV ad _ _) rfl rfl ?_ | refine res1 (v := .iface _ (.pointer (some _))) rfl rfl ?_
    exact ⟨_, rfl, (errV_zero ad).symm, Mem.closeD (ho1.setF hki ⟨hfl.1, Nat.le_refl _, hfl.2.2⟩) (Mem.shutFile (L := L) hb2 (Mem.closeF2 (f := { d1.fl i with syn := (d1.fl i).b.length }) rfl rfl rfl rfl hs))⟩
theorem cut_sl (hE : ErrK ad g) (hs : Mem g w (DiskC p d :: L)) (hcl : d.calls < 1000000) (n : ByteArray) {m : Int} (hm : InI64 m) {k : Nat} {d2 : Dk} (hk : d.cut n m = (k, d2)) : Calls Tryd.prog 47 #[.pointer (some ⟨p, 0, none⟩), .string n, .int .i64 m] w (Ret fun v w' => v = errV ad k ∧ Mem g w' (DiskC p d2 :: L)) := by
  obtain ⟨ho, mn, mk, sa, sc, ptr, hs⟩ := hs.openD
  obtain ⟨c0, o, d1, hfd⟩ : ∃ c0 o d1, d.find n = (c0, o, d1) := ⟨_, _, _, rfl⟩
  have hb := d.begin_same
  rw [← Dk.find_dk hfd] at hb
  have ho1 := ho.find hfd
  refine calls_cw Tryd.func47 rfl rfl ?_
  skip
  refine cw_seq ?_
  refine cw_region ?_
  first | refine lw_val rfl (run_assign (v := errV ad _) rfl) ?_ | refine lw_val rfl (run_assign (v := .nilIface) rfl) ?_ | refine lw_val rfl (run_assign (v := eV ad _ _) rfl) ?_ | refine lw_val rfl (run_assign (v := .iface _ (.pointer (some _))) rfl) ?_
  refine lw_nil ?_
  refine cw_seq ?_
  refine cw_region ?_
  first | refine lw_val rfl (run_move (v := .pointer (some _)) rfl) ?_ | refine lw_val rfl (run_move (v := .pointer none) rfl) ?_
  first | refine lw_val rfl (run_move (v := .string _) rfl) ?_
  refine lw_call rfl en79 (find_sl hE ho n hs hfd) ?_
  clear hs
  rintro _ w ((⟨c, hc, h0, hr, rfl, hs⟩) | (⟨i, b, hr, hki, hb2, hf, rfl, hs⟩))
  · skip
    first | refine lw_val rfl (run_move (v := .tuple _) rfl) ?_
    first | refine lw_val rfl (run_extract (v := .pointer (some _)) rfl rfl) ?_ | refine lw_val rfl (run_extract (v := .pointer none) rfl rfl) ?_
    first | refine lw_val rfl (run_extract (v := errV ad _) rfl rfl) ?_ | refine lw_val rfl (run_extract (v := .nilIface) rfl rfl) ?_ | refine lw_val rfl (run_extract (v := eV ad _ _) rfl rfl) ?_ | refine lw_val rfl (run_extract (v := .iface _ (.pointer (some _))) rfl rfl) ?_
    first | refine lw_val rfl (run_assign (v := .pointer (some _)) rfl) ?_ | refine lw_val rfl (run_assign (v := .pointer none) rfl) ?_
    first | refine lw_val rfl (run_assign (v := errV ad _) rfl) ?_ | refine lw_val rfl (run_assign (v := .nilIface) rfl) ?_ | refine lw_val rfl (run_assign (v := eV ad _ _) rfl) ?_ | refine lw_val rfl (run_assign (v := .iface _ (.pointer (some _))) rfl) ?_
    refine lw_nil ?_
    refine cw_seq ?_
    refine cw_seq ?_
    refine cw_region ?_
    first | refine lw_val rfl (run_move (v := errV ad _) rfl) ?_ | refine lw_val rfl (run_move (v := .nilIface) rfl) ?_ | refine lw_val rfl (run_move (v := eV ad _ _) rfl) ?_ | refine lw_val rfl (run_move (v := .iface _ (.pointer (some _))) rfl) ?_
    first | refine lw_val rfl (run_neerrn (ad := ad) rfl) ?_ | refine lw_val rfl (run_nenn rfl) ?_ | refine lw_val rfl (run_neE (ad := ad) rfl) ?_
    refine lw_nil ?_
    refine cw_ift rfl (by simp [h0]) ?_
    refine cw_seq ?_
    refine cw_region ?_
    first | refine lw_val rfl (run_move (v := errV ad _) rfl) ?_ | refine lw_val rfl (run_move (v := .nilIface) rfl) ?_ | refine lw_val rfl (run_move (v := eV ad _ _) rfl) ?_ | refine lw_val rfl (run_move (v := .iface _ (.pointer (some _))) rfl) ?_
    first | refine lw_val rfl (run_assign (v := errV ad _) rfl) ?_ | refine lw_val rfl (run_assign (v := .nilIface) rfl) ?_ | refine lw_val rfl (run_assign (v := eV ad _ _) rfl) ?_ | refine lw_val rfl (run_assign (v := .iface _ (.pointer (some _))) rfl) ?_
    refine lw_nil ?_
    refine cw_ret ?_
    first | refine res1 (v := errV ad _) rfl rfl ?_ | refine res1 (v := .nilIface) rfl rfl ?_ | refine res1 (v := eV ad _ _) rfl rfl ?_ | refine res1 (v := .iface _ (.pointer (some _))) rfl rfl ?_
    cases hr
    simp only [Dk.cut, hfd] at hk
    cases hk
    exact ⟨_, rfl, rfl, Mem.closeD ho1 hs⟩
  · skip
    first | refine lw_val rfl (run_move (v := .tuple _) rfl) ?_
    first | refine lw_val rfl (run_extract (v := .pointer (some _)) rfl rfl) ?_ | refine lw_val rfl (run_extract (v := .pointer none) rfl rfl) ?_
    first | refine lw_val rfl (run_extract (v := errV ad _) rfl rfl) ?_ | refine lw_val rfl (run_extract (v := .nilIface) rfl rfl) ?_ | refine lw_val rfl (run_extract (v := eV ad _ _) rfl rfl) ?_ | refine lw_val rfl (run_extract (v := .iface _ (.pointer (some _))) rfl rfl) ?_
    first | refine lw_val rfl (run_assign (v := .pointer (some _)) rfl) ?_ | refine lw_val rfl (run_assign (v := .pointer none) rfl) ?_
    first | refine lw_val rfl (run_assign (v := errV ad _) rfl) ?_ | refine lw_val rfl (run_assign (v := .nilIface) rfl) ?_ | refine lw_val rfl (run_assign (v := eV ad _ _) rfl) ?_ | refine lw_val rfl (run_assign (v := .iface _ (.pointer (some _))) rfl) ?_
    refine lw_nil ?_
    refine cw_seq ?_
    refine cw_seq ?_
    refine cw_region ?_
    first | refine lw_val rfl (run_move (v := errV ad _) rfl) ?_ | refine lw_val rfl (run_move (v := .nilIface) rfl) ?_ | refine lw_val rfl (run_move (v := eV ad _ _) rfl) ?_ | refine lw_val rfl (run_move (v := .iface _ (.pointer (some _))) rfl) ?_
    first | refine lw_val rfl (run_neerrn (ad := ad) rfl) ?_ | refine lw_val rfl (run_nenn rfl) ?_ | refine lw_val rfl (run_neE (ad := ad) rfl) ?_
    refine lw_nil ?_
    refine cw_iff rfl (rfl) ?_
    refine cw_skip ?_
    refine cw_seq ?_
    refine cw_seq ?_
    cases hr
    simp only [Dk.cut, hfd] at hk
    obtain ⟨fa, fc, hfc, hs⟩ := hs.openFile hb2 hf
    have hfl := ho1.fid _ _ hf
    refine cw_region ?_
    first | refine lw_val rfl (run_move (v := .int .i64 _) rfl) ?_
    refine lw_val rfl (run_lss rfl rfl) ?_
    first | refine lw_val rfl (run_move (v := .bool _) rfl) ?_
    refine lw_split (t := _) (d := 20) rfl ?_ ?_
    · intro h19
      have g19 := of_decide_eq_true h19
      refine lw_off rfl rfl rfl h19 ?_
      refine lw_off rfl rfl rfl h19 ?_
      refine lw_off rfl rfl rfl h19 ?_
      refine lw_off rfl rfl rfl h19 ?_
      refine lw_off rfl rfl rfl h19 ?_
      refine lw_off rfl rfl rfl h19 ?_
      refine lw_off rfl rfl rfl h19 ?_
      first | refine lw_val rfl (run_pickT (v := .bool _) rfl h19 rfl) ?_
      refine lw_nil ?_
      refine cw_ift rfl rfl ?_
      refine cw_seq ?_
      have hs2 := Mem.shutFile hb2 (Mem.closeF2 rfl rfl rfl rfl hs)
      rw [aput_same hf] at hs2
      clear hs
      have hs := hs2
      clear hs2
      refine cw_region ?_
      refine lw_val rfl (run_load Tryd.underlying30 rfl rfl (hE.cellW hs 105 (by decide) rfl)) ?_
      first | refine lw_val rfl (run_assign (v := errV ad _) rfl) ?_ | refine lw_val rfl (run_assign (v := .nilIface) rfl) ?_ | refine lw_val rfl (run_assign (v := eV ad _ _) rfl) ?_ | refine lw_val rfl (run_assign (v := .iface _ (.pointer (some _))) rfl) ?_
      refine lw_nil ?_
      refine cw_ret ?_
      first | refine res1 (v := errV ad _) rfl rfl ?_ | refine res1 (v := .nilIface) rfl rfl ?_ | refine res1 (v := eV ad _ _) rfl rfl ?_ | refine res1 (v := .iface _ (.pointer (some _))) rfl rfl ?_
      rw [if_pos (by omega)] at hk
      cases hk
      exact ⟨_, rfl, rfl, Mem.closeD ho1 hs⟩
    · intro h19
      have g19 := of_decide_eq_false h19
      refine lw_on rfl rfl h19 ?_
      first | refine lw_val rfl (run_move (v := .int .i64 _) rfl) ?_
      refine lw_on rfl rfl h19 ?_
      first | refine lw_val rfl (run_move (v := .pointer (some _)) rfl) ?_ | refine lw_val rfl (run_move (v := .pointer none) rfl) ?_
      refine lw_on rfl rfl h19 ?_
      refine lw_val rfl (run_nilCheckP rfl) ?_
      refine lw_on rfl rfl h19 ?_
      first | refine lw_val rfl (run_fieldAddr (o' := 1) Tryd.underlying115 rfl sz23 rfl rfl rfl) ?_ | refine lw_val rfl (run_fieldAddr Tryd.underlying115 rfl sz23 rfl rfl rfl) ?_
      refine lw_on rfl rfl h19 ?_
      first | refine lw_val rfl (run_load Tryd.underlying23 rfl rfl (hs.cellAt 0 rfl rfl)) ?_ | refine lw_val rfl (run_load Tryd.underlying23 rfl rfl (hs.cellAt 1 rfl rfl)) ?_ | refine lw_val rfl (run_load Tryd.underlying23 rfl rfl (hs.cellAt 2 rfl rfl)) ?_ | refine lw_val rfl (run_load Tryd.underlying23 rfl rfl (hs.cellAt 3 rfl rfl)) ?_ | refine lw_val rfl (run_load Tryd.underlying23 rfl rfl (hs.cellAt 4 rfl rfl)) ?_ | refine lw_val rfl (run_load Tryd.underlying23 rfl rfl (hs.cellAt 5 rfl rfl)) ?_ | refine lw_val rfl (run_load Tryd.underlying23 rfl rfl (hs.cellAt 6 rfl rfl)) ?_ | refine lw_val rfl (run_load Tryd.underlying23 rfl rfl (hs.cellAt 7 rfl rfl)) ?_ | refine lw_val rfl (run_load Tryd.underlying23 rfl rfl (hs.cellAt 8 rfl rfl)) ?_ | refine lw_val rfl (run_load Tryd.underlying23 rfl rfl (hs.cellAt 9 rfl rfl)) ?_ | refine lw_val rfl (run_load Tryd.underlying23 rfl rfl (hs.cellAt 10 rfl rfl)) ?_ | refine lw_val rfl (run_load Tryd.underlying23 rfl rfl (hs.cellAt 11 rfl rfl)) ?_ | refine lw_val rfl (run_load Tryd.underlying23 rfl rfl (hs.cellAt 12 rfl rfl)) ?_ | refine lw_val rfl (run_load Tryd.underlying23 rfl rfl (hs.cellAt 13 rfl rfl)) ?_
      refine lw_on rfl rfl h19 ?_
      refine lw_val rfl (run_lenS Tryd.underlying23 rfl) ?_
      refine lw_on rfl rfl h19 ?_
      refine lw_val rfl (run_gtr rfl rfl) ?_
      first | refine lw_val rfl (run_pickF (v := .bool _) rfl h19 rfl) ?_
      refine lw_nil ?_
      refine cw_if rfl ?_ ?_
      · intro h27
        have g27 := of_decide_eq_true h27
        refine cw_seq ?_
        have hs2 := Mem.shutFile hb2 (Mem.closeF2 rfl rfl rfl rfl hs)
        rw [aput_same hf] at hs2
        clear hs
        have hs := hs2
        clear hs2
        refine cw_region ?_
        refine lw_val rfl (run_load Tryd.underlying30 rfl rfl (hE.cellW hs 105 (by decide) rfl)) ?_
        first | refine lw_val rfl (run_assign (v := errV ad _) rfl) ?_ | refine lw_val rfl (run_assign (v := .nilIface) rfl) ?_ | refine lw_val rfl (run_assign (v := eV ad _ _) rfl) ?_ | refine lw_val rfl (run_assign (v := .iface _ (.pointer (some _))) rfl) ?_
        refine lw_nil ?_
        refine cw_ret ?_
        first | refine res1 (v := errV ad _) rfl rfl ?_ | refine res1 (v := .nilIface) rfl rfl ?_ | refine res1 (v := eV ad _ _) rfl rfl ?_ | refine res1 (v := .iface _ (.pointer (some _))) rfl rfl ?_
        rw [if_pos (by omega)] at hk
        cases hk
        exact ⟨_, rfl, rfl, Mem.closeD ho1 hs⟩
      · intro h27
        have g27 := of_decide_eq_false h27
        refine cw_skip ?_
        refine cw_seq ?_
        rw [if_neg (by omega)] at hk
        cases hk
        obtain ⟨q, rfl⟩ : ∃ q : Nat, m = (q : Int) := ⟨m.toNat, by omega⟩
        simp only [Int.toNat_natCast]
        refine cw_region ?_
        first | refine lw_val rfl (run_move (v := .pointer (some _)) rfl) ?_ | refine lw_val rfl (run_move (v := .pointer none) rfl) ?_
        first | refine lw_val rfl (run_move (v := .pointer (some _)) rfl) ?_ | refine lw_val rfl (run_move (v := .pointer none) rfl) ?_
        refine lw_val rfl (run_nilCheckP rfl) ?_
        first | refine lw_val rfl (run_fieldAddr (o' := 1) Tryd.underlying115 rfl sz23 rfl rfl rfl) ?_ | refine lw_val rfl (run_fieldAddr Tryd.underlying115 rfl sz23 rfl rfl rfl) ?_
        first | refine lw_val rfl (run_load Tryd.underlying23 rfl rfl (hs.cellAt 0 rfl rfl)) ?_ | refine lw_val rfl (run_load Tryd.underlying23 rfl rfl (hs.cellAt 1 rfl rfl)) ?_ | refine lw_val rfl (run_load Tryd.underlying23 rfl rfl (hs.cellAt 2 rfl rfl)) ?_ | refine lw_val rfl (run_load Tryd.underlying23 rfl rfl (hs.cellAt 3 rfl rfl)) ?_ | refine lw_val rfl (run_load Tryd.underlying23 rfl rfl (hs.cellAt 4 rfl rfl)) ?_ | refine lw_val rfl (run_load Tryd.underlying23 rfl rfl (hs.cellAt 5 rfl rfl)) ?_ | refine lw_val rfl (run_load Tryd.underlying23 rfl rfl (hs.cellAt 6 rfl rfl)) ?_ | refine lw_val rfl (run_load Tryd.underlying23 rfl rfl (hs.cellAt 7 rfl rfl)) ?_ | refine lw_val rfl (run_load Tryd.underlying23 rfl rfl (hs.cellAt 8 rfl rfl)) ?_ | refine lw_val rfl (run_load Tryd.underlying23 rfl rfl (hs.cellAt 9 rfl rfl)) ?_ | refine lw_val rfl (run_load Tryd.underlying23 rfl rfl (hs.cellAt 10 rfl rfl)) ?_ | refine lw_val rfl (run_load Tryd.underlying23 rfl rfl (hs.cellAt 11 rfl rfl)) ?_ | refine lw_val rfl (run_load Tryd.underlying23 rfl rfl (hs.cellAt 12 rfl rfl)) ?_ | refine lw_val rfl (run_load Tryd.underlying23 rfl rfl (hs.cellAt 13 rfl rfl)) ?_
        first | refine lw_val rfl (run_move (v := .int .i64 _) rfl) ?_
        refine lw_val rfl (run_sliceTo Tryd.underlying23 sz5 rfl rfl (hi := q) rfl (by omega)) ?_
        refine lw_call rfl en84 (clone_sl hs (l := (d1.fl i).b.take q) ((hs.rdOwn 1 rfl).subB (lo := 0) (hi := q) (by omega) (by omega)) (by simp; omega)) ?_
        clear hs
        rintro _ w ⟨a37, c37, rfl, hs⟩
        refine lw_val rfl (run_nilCheckP rfl) ?_
        first | refine lw_val rfl (run_fieldAddr (o' := 1) Tryd.underlying115 rfl sz23 rfl rfl rfl) ?_ | refine lw_val rfl (run_fieldAddr Tryd.underlying115 rfl sz23 rfl rfl rfl) ?_
        first | refine lw_store (v := .slice _ _ _) hs 0 rfl sz23 rfl rfl rfl rfl ?_ | refine lw_store (v := .slice _ _ _) hs 1 rfl sz23 rfl rfl rfl rfl ?_ | refine lw_store (v := .slice _ _ _) hs 2 rfl sz23 rfl rfl rfl rfl ?_ | refine lw_store (v := .slice _ _ _) hs 3 rfl sz23 rfl rfl rfl rfl ?_ | refine lw_store (v := .slice _ _ _) hs 4 rfl sz23 rfl rfl rfl rfl ?_ | refine lw_store (v := .slice _ _ _) hs 5 rfl sz23 rfl rfl rfl rfl ?_ | refine lw_store (v := .slice _ _ _) hs 6 rfl sz23 rfl rfl rfl rfl ?_ | refine lw_store (v := .slice _ _ _) hs 7 rfl sz23 rfl rfl rfl rfl ?_ | refine lw_store (v := .slice _ _ _) hs 8 rfl sz23 rfl rfl rfl rfl ?_ | refine lw_store (v := .slice _ _ _) hs 9 rfl sz23 rfl rfl rfl rfl ?_ | refine lw_store (v := .slice _ _ _) hs 10 rfl sz23 rfl rfl rfl rfl ?_ | refine lw_store (v := .slice _ _ _) hs 11 rfl sz23 rfl rfl rfl rfl ?_ | refine lw_store (v := .slice _ _ _) hs 12 rfl sz23 rfl rfl rfl rfl ?_ | refine lw_store (v := .slice _ _ _) hs 13 rfl sz23 rfl rfl rfl rfl ?_
        clear hs
        intro w hs
        try simp only [List.set_cons_succ, List.set_cons_zero] at hs
        refine lw_nil ?_
        refine cw_seq ?_
        refine cw_region ?_
        first | refine lw_val rfl (run_move (v := .pointer (some _)) rfl) ?_ | refine lw_val rfl (run_move (v := .pointer none) rfl) ?_
        first | refine lw_val rfl (run_move (v := .int .i64 _) rfl) ?_
        refine lw_val rfl (run_nilCheckP rfl) ?_
        first | refine lw_val rfl (run_fieldAddr (o' := 2) Tryd.underlying115 rfl sz3 rfl rfl rfl) ?_ | refine lw_val rfl (run_fieldAddr Tryd.underlying115 rfl sz3 rfl rfl rfl) ?_
        first | refine lw_store (v := .int .i64 _) hs 0 rfl sz3 rfl rfl rfl rfl ?_ | refine lw_store (v := .int .i64 _) hs 1 rfl sz3 rfl rfl rfl rfl ?_ | refine lw_store (v := .int .i64 _) hs 2 rfl sz3 rfl rfl rfl rfl ?_ | refine lw_store (v := .int .i64 _) hs 3 rfl sz3 rfl rfl rfl rfl ?_ | refine lw_store (v := .int .i64 _) hs 4 rfl sz3 rfl rfl rfl rfl ?_ | refine lw_store (v := .int .i64 _) hs 5 rfl sz3 rfl rfl rfl rfl ?_ | refine lw_store (v := .int .i64 _) hs 6 rfl sz3 rfl rfl rfl rfl ?_ | refine lw_store (v := .int .i64 _) hs 7 rfl sz3 rfl rfl rfl rfl ?_ | refine lw_store (v := .int .i64 _) hs 8 rfl sz3 rfl rfl rfl rfl ?_ | refine lw_store (v := .int .i64 _) hs 9 rfl sz3 rfl rfl rfl rfl ?_ | refine lw_store (v := .int .i64 _) hs 10 rfl sz3 rfl rfl rfl rfl ?_ | refine lw_store (v := .int .i64 _) hs 11 rfl sz3 rfl rfl rfl rfl ?_ | refine lw_store (v := .int .i64 _) hs 12 rfl sz3 rfl rfl rfl rfl ?_ | refine lw_store (v := .int .i64 _) hs 13 rfl sz3 rfl rfl rfl rfl ?_
        clear hs
        intro w hs
        try simp only [List.set_cons_succ, List.set_cons_zero] at hs
        refine lw_nil ?_
        refine cw_seq ?_
        refine cw_region ?_
        first | refine lw_val rfl (run_move (v := .pointer (some _)) rfl) ?_ | refine lw_val rfl (run_move (v := .pointer none) rfl) ?_
        refine lw_val rfl (run_nilCheckP rfl) ?_
        first | refine lw_val rfl (run_fieldAddr (o' := 7) Tryd.underlying110 rfl sz3 rfl rfl rfl) ?_ | refine lw_val rfl (run_fieldAddr Tryd.underlying110 rfl sz3 rfl rfl rfl) ?_
        first | refine lw_val rfl (run_load Tryd.underlying3 rfl rfl (hs.cellAt 0 rfl rfl)) ?_ | refine lw_val rfl (run_load Tryd.underlying3 rfl rfl (hs.cellAt 1 rfl rfl)) ?_ | refine lw_val rfl (run_load Tryd.underlying3 rfl rfl (hs.cellAt 2 rfl rfl)) ?_ | refine lw_val rfl (run_load Tryd.underlying3 rfl rfl (hs.cellAt 3 rfl rfl)) ?_ | refine lw_val rfl (run_load Tryd.underlying3 rfl rfl (hs.cellAt 4 rfl rfl)) ?_ | refine lw_val rfl (run_load Tryd.underlying3 rfl rfl (hs.cellAt 5 rfl rfl)) ?_ | refine lw_val rfl (run_load Tryd.underlying3 rfl rfl (hs.cellAt 6 rfl rfl)) ?_ | refine lw_val rfl (run_load Tryd.underlying3 rfl rfl (hs.cellAt 7 rfl rfl)) ?_ | refine lw_val rfl (run_load Tryd.underlying3 rfl rfl (hs.cellAt 8 rfl rfl)) ?_ | refine lw_val rfl (run_load Tryd.underlying3 rfl rfl (hs.cellAt 9 rfl rfl)) ?_ | refine lw_val rfl (run_load Tryd.underlying3 rfl rfl (hs.cellAt 10 rfl rfl)) ?_ | refine lw_val rfl (run_load Tryd.underlying3 rfl rfl (hs.cellAt 11 rfl rfl)) ?_ | refine lw_val rfl (run_load Tryd.underlying3 rfl rfl (hs.cellAt 12 rfl rfl)) ?_ | refine lw_val rfl (run_load Tryd.underlying3 rfl rfl (hs.cellAt 13 rfl rfl)) ?_
        refine lw_val rfl (run_add64 rfl rfl rfl (inI (by omega) (by omega))) ?_
        refine lw_val rfl (run_nilCheckP rfl) ?_
        first | refine lw_val rfl (run_fieldAddr (o' := 7) Tryd.underlying110 rfl sz3 rfl rfl rfl) ?_ | refine lw_val rfl (run_fieldAddr Tryd.underlying110 rfl sz3 rfl rfl rfl) ?_
        first | refine lw_store (v := .int .i64 _) hs 0 rfl sz3 rfl rfl rfl rfl ?_ | refine lw_store (v := .int .i64 _) hs 1 rfl sz3 rfl rfl rfl rfl ?_ | refine lw_store (v := .int .i64 _) hs 2 rfl sz3 rfl rfl rfl rfl ?_ | refine lw_store (v := .int .i64 _) hs 3 rfl sz3 rfl rfl rfl rfl ?_ | refine lw_store (v := .int .i64 _) hs 4 rfl sz3 rfl rfl rfl rfl ?_ | refine lw_store (v := .int .i64 _) hs 5 rfl sz3 rfl rfl rfl rfl ?_ | refine lw_store (v := .int .i64 _) hs 6 rfl sz3 rfl rfl rfl rfl ?_ | refine lw_store (v := .int .i64 _) hs 7 rfl sz3 rfl rfl rfl rfl ?_ | refine lw_store (v := .int .i64 _) hs 8 rfl sz3 rfl rfl rfl rfl ?_ | refine lw_store (v := .int .i64 _) hs 9 rfl sz3 rfl rfl rfl rfl ?_ | refine lw_store (v := .int .i64 _) hs 10 rfl sz3 rfl rfl rfl rfl ?_ | refine lw_store (v := .int .i64 _) hs 11 rfl sz3 rfl rfl rfl rfl ?_ | refine lw_store (v := .int .i64 _) hs 12 rfl sz3 rfl rfl rfl rfl ?_ | refine lw_store (v := .int .i64 _) hs 13 rfl sz3 rfl rfl rfl rfl ?_
        clear hs
        intro w hs
        try simp only [List.set_cons_succ, List.set_cons_zero] at hs
        refine lw_nil ?_
        refine cw_seq ?_
        refine cw_region ?_
        first | refine lw_val rfl (run_assign (v := errV ad _) rfl) ?_ | refine lw_val rfl (run_assign (v := .nilIface) rfl) ?_ | refine lw_val rfl (run_assign (v := eV ad _ _) rfl) ?_ | refine lw_val rfl (run_assign (v := .iface _ (.pointer (some _))) rfl) ?_
        refine lw_nil ?_
        refine cw_ret ?_
        first | refine res1 (v := errV ad _) rfl rfl ?_ | refine res1 (v := .nilIface) rfl rfl ?_ | refine res1 (v := eV ad _ _) rfl rfl ?_ | refine res1 (v := .iface _ (.pointer (some _))) rfl rfl ?_
        rw [bytesL_len] at hs
        exact ⟨_, rfl, (errV_zero ad).symm, Mem.closeD (ho1.setF hki ⟨hfl.1, by simp; omega, by simp; omega⟩) (Mem.shutFile (L := L) hb2 (Mem.closeF2 (f := { d1.fl i with b := (d1.fl i).b.take q, syn := q }) rfl rfl rfl rfl (hs.arr [1, 0, 3, 4, 5, 6, 7] 8 (by decide))))⟩
theorem clip_sl (hs : Mem g w L) (i : Nat) {a : Option Addr} {m c : Nat} {l : List Value} (hi : L[i]? = some (own (.slice a m c) l)) (hm : m < 1000000000000) : Calls Tryd.prog 80 #[.slice a m c] w (Ret fun v w' => v = .slice a m m ∧ Mem g w' (L.set i (own (.slice a m m) l))) := by
  obtain ⟨h1, h2, h3⟩ := hs.ownForm i hi
  refine calls_cw Tryd.func80 rfl rfl ?_
  skip
  refine cw_seq ?_
  refine cw_region ?_
  first | refine lw_val rfl (run_assign (v := .slice _ _ _) rfl) ?_
  refine lw_nil ?_
  refine cw_seq ?_
  refine cw_region ?_
  first | refine lw_val rfl (run_move (v := .slice _ _ _) rfl) ?_
  first | refine lw_val rfl (run_move (v := .slice _ _ _) rfl) ?_
  refine lw_val rfl (run_lenS Tryd.underlying23 rfl) ?_
  first | refine lw_val rfl (run_move (v := .slice _ _ _) rfl) ?_
  refine lw_val rfl (run_lenS Tryd.underlying23 rfl) ?_
  refine lw_val rfl (run_clip Tryd.underlying23 sz5 rfl rfl rfl rfl rfl h2 h3) ?_
  first | refine lw_val rfl (run_assign (v := .slice _ _ _) rfl) ?_
  refine lw_nil ?_
  refine cw_ret ?_
  refine res1 (v := .slice _ _ _) rfl rfl ?_
  exact ⟨_, rfl, rfl, hs.clip i hi⟩
theorem append_sl (hE : ErrK ad g) (hs : Mem g w (DiskC p d :: L)) (hcl : d.calls < 1000000) (n : ByteArray) {x : List UInt8} {a : Option Addr} {m c : Nat} (hr0 : Rd g L (.slice a m c) (bytesL x)) (hm : m = x.length) (hx : x.length ≤ 1073741824) {k : Nat} {d2 : Dk} (hk : d.append n x = (k, d2)) : Calls Tryd.prog 30 #[.pointer (some ⟨p, 0, none⟩), .string n, .slice a m c] w (Ret fun v w' => v = errV ad k ∧ Mem g w' (DiskC p d2 :: L)) := by
  subst hm
  obtain ⟨ho, mn, mk, sa, sc, ptr, hs⟩ := hs.openD
  obtain ⟨c0, o, d1, hfd⟩ : ∃ c0 o d1, d.find n = (c0, o, d1) := ⟨_, _, _, rfl⟩
  have hb := d.begin_same
  rw [← Dk.find_dk hfd] at hb
  have ho1 := ho.find hfd
  have hu1 := Dk.used_le ho1
  have hrm := ho1.room
  refine calls_cw Tryd.func30 rfl rfl ?_
  skip
  refine cw_seq ?_
  refine cw_region ?_
  first | refine lw_val rfl (run_assign (v := errV ad _) rfl) ?_ | refine lw_val rfl (run_assign (v := .nilIface) rfl) ?_ | refine lw_val rfl (run_assign (v := eV ad _ _) rfl) ?_ | refine lw_val rfl (run_assign (v := .iface _ (.pointer (some _))) rfl) ?_
  refine lw_nil ?_
  refine cw_seq ?_
  refine cw_region ?_
  first | refine lw_val rfl (run_move (v := .pointer (some _)) rfl) ?_ | refine lw_val rfl (run_move (v := .pointer none) rfl) ?_
  first | refine lw_val rfl (run_move (v := .string _) rfl) ?_
  refine lw_call rfl en79 (find_sl hE ho n hs hfd) ?_
  clear hs
  rintro _ w ((⟨c, hc, h0, hr, rfl, hs⟩) | (⟨i, b, hr, hki, hb2, hf, rfl, hs⟩))
  · skip
    first | refine lw_val rfl (run_move (v := .tuple _) rfl) ?_
    first | refine lw_val rfl (run_extract (v := .pointer (some _)) rfl rfl) ?_ | refine lw_val rfl (run_extract (v := .pointer none) rfl rfl) ?_
    first | refine lw_val rfl (run_extract (v := errV ad _) rfl rfl) ?_ | refine lw_val rfl (run_extract (v := .nilIface) rfl rfl) ?_ | refine lw_val rfl (run_extract (v := eV ad _ _) rfl rfl) ?_ | refine lw_val rfl (run_extract (v := .iface _ (.pointer (some _))) rfl rfl) ?_
    first | refine lw_val rfl (run_assign (v := .pointer (some _)) rfl) ?_ | refine lw_val rfl (run_assign (v := .pointer none) rfl) ?_
    first | refine lw_val rfl (run_assign (v := errV ad _) rfl) ?_ | refine lw_val rfl (run_assign (v := .nilIface) rfl) ?_ | refine lw_val rfl (run_assign (v := eV ad _ _) rfl) ?_ | refine lw_val rfl (run_assign (v := .iface _ (.pointer (some _))) rfl) ?_
    refine lw_nil ?_
    refine cw_seq ?_
    refine cw_seq ?_
    refine cw_region ?_
    first | refine lw_val rfl (run_move (v := errV ad _) rfl) ?_ | refine lw_val rfl (run_move (v := .nilIface) rfl) ?_ | refine lw_val rfl (run_move (v := eV ad _ _) rfl) ?_ | refine lw_val rfl (run_move (v := .iface _ (.pointer (some _))) rfl) ?_
    first | refine lw_val rfl (run_neerrn (ad := ad) rfl) ?_ | refine lw_val rfl (run_nenn rfl) ?_ | refine lw_val rfl (run_neE (ad := ad) rfl) ?_
    refine lw_nil ?_
    refine cw_ift rfl (by simp [h0]) ?_
    refine cw_seq ?_
    refine cw_region ?_
    first | refine lw_val rfl (run_move (v := errV ad _) rfl) ?_ | refine lw_val rfl (run_move (v := .nilIface) rfl) ?_ | refine lw_val rfl (run_move (v := eV ad _ _) rfl) ?_ | refine lw_val rfl (run_move (v := .iface _ (.pointer (some _))) rfl) ?_
    first | refine lw_val rfl (run_assign (v := errV ad _) rfl) ?_ | refine lw_val rfl (run_assign (v := .nilIface) rfl) ?_ | refine lw_val rfl (run_assign (v := eV ad _ _) rfl) ?_ | refine lw_val rfl (run_assign (v := .iface _ (.pointer (some _))) rfl) ?_
    refine lw_nil ?_
    refine cw_ret ?_
    first | refine res1 (v := errV ad _) rfl rfl ?_ | refine res1 (v := .nilIface) rfl rfl ?_ | refine res1 (v := eV ad _ _) rfl rfl ?_ | refine res1 (v := .iface _ (.pointer (some _))) rfl rfl ?_
    cases hr
    simp only [Dk.append, hfd] at hk
    cases hk
    exact ⟨_, rfl, rfl, Mem.closeD ho1 hs⟩
  · skip
    first | refine lw_val rfl (run_move (v := .tuple _) rfl) ?_
    first | refine lw_val rfl (run_extract (v := .pointer (some _)) rfl rfl) ?_ | refine lw_val rfl (run_extract (v := .pointer none) rfl rfl) ?_
    first | refine lw_val rfl (run_extract (v := errV ad _) rfl rfl) ?_ | refine lw_val rfl (run_extract (v := .nilIface) rfl rfl) ?_ | refine lw_val rfl (run_extract (v := eV ad _ _) rfl rfl) ?_ | refine lw_val rfl (run_extract (v := .iface _ (.pointer (some _))) rfl rfl) ?_
    first | refine lw_val rfl (run_assign (v := .pointer (some _)) rfl) ?_ | refine lw_val rfl (run_assign (v := .pointer none) rfl) ?_
    first | refine lw_val rfl (run_assign (v := errV ad _) rfl) ?_ | refine lw_val rfl (run_assign (v := .nilIface) rfl) ?_ | refine lw_val rfl (run_assign (v := eV ad _ _) rfl) ?_ | refine lw_val rfl (run_assign (v := .iface _ (.pointer (some _))) rfl) ?_
    refine lw_nil ?_
    refine cw_seq ?_
    refine cw_seq ?_
    refine cw_region ?_
    first | refine lw_val rfl (run_move (v := errV ad _) rfl) ?_ | refine lw_val rfl (run_move (v := .nilIface) rfl) ?_ | refine lw_val rfl (run_move (v := eV ad _ _) rfl) ?_ | refine lw_val rfl (run_move (v := .iface _ (.pointer (some _))) rfl) ?_
    first | refine lw_val rfl (run_neerrn (ad := ad) rfl) ?_ | refine lw_val rfl (run_nenn rfl) ?_ | refine lw_val rfl (run_neE (ad := ad) rfl) ?_
    refine lw_nil ?_
    refine cw_iff rfl (rfl) ?_
    refine cw_skip ?_
    refine cw_seq ?_
    refine cw_seq ?_
    cases hr
    simp only [Dk.append, hfd] at hk
    have hfl := ho1.fid _ _ hf
    have hle := ho1.tookB.len_eq hki
    refine cw_drawS mixes hs ?_
    intro w tr hK
    replace hs := tr _ hs
    clear tr
    first | refine aw_take 0 rfl (by kernel_rfl) (by kernel_rfl) (by kernel_rfl) rfl (fun w hs => run_move (v := .slice _ _ _) rfl) hK ?_
    refine aw_take 1 rfl (by kernel_rfl) (by kernel_rfl) (by kernel_rfl) rfl (fun w hs => run_lenS Tryd.underlying23 rfl) hK ?_
    first | refine aw_take 2 rfl (by kernel_rfl) (by kernel_rfl) (by kernel_rfl) rfl (fun w hs => run_move (v := .pointer (some _)) rfl) hK ?_ | refine aw_take 2 rfl (by kernel_rfl) (by kernel_rfl) (by kernel_rfl) rfl (fun w hs => run_move (v := .pointer none) rfl) hK ?_
    refine aw_take 3 rfl (by kernel_rfl) (by kernel_rfl) (by kernel_rfl) rfl (fun w hs => run_nilCheckP rfl) hK ?_
    first | refine aw_take 4 rfl (by kernel_rfl) (by kernel_rfl) (by kernel_rfl) rfl (fun w hs => run_fieldAddr (o' := 0) Tryd.underlying110 rfl sz3 rfl rfl rfl) hK ?_ | refine aw_take 4 rfl (by kernel_rfl) (by kernel_rfl) (by kernel_rfl) rfl (fun w hs => run_fieldAddr Tryd.underlying110 rfl sz3 rfl rfl rfl) hK ?_
    first | refine aw_take 5 rfl (by kernel_rfl) (by kernel_rfl) (by kernel_rfl) rfl (fun w hs => run_load Tryd.underlying3 rfl rfl (hs.cellAt 0 rfl rfl)) hK ?_ | refine aw_take 5 rfl (by kernel_rfl) (by kernel_rfl) (by kernel_rfl) rfl (fun w hs => run_load Tryd.underlying3 rfl rfl (hs.cellAt 1 rfl rfl)) hK ?_ | refine aw_take 5 rfl (by kernel_rfl) (by kernel_rfl) (by kernel_rfl) rfl (fun w hs => run_load Tryd.underlying3 rfl rfl (hs.cellAt 2 rfl rfl)) hK ?_ | refine aw_take 5 rfl (by kernel_rfl) (by kernel_rfl) (by kernel_rfl) rfl (fun w hs => run_load Tryd.underlying3 rfl rfl (hs.cellAt 3 rfl rfl)) hK ?_ | refine aw_take 5 rfl (by kernel_rfl) (by kernel_rfl) (by kernel_rfl) rfl (fun w hs => run_load Tryd.underlying3 rfl rfl (hs.cellAt 4 rfl rfl)) hK ?_ | refine aw_take 5 rfl (by kernel_rfl) (by kernel_rfl) (by kernel_rfl) rfl (fun w hs => run_load Tryd.underlying3 rfl rfl (hs.cellAt 5 rfl rfl)) hK ?_ | refine aw_take 5 rfl (by kernel_rfl) (by kernel_rfl) (by kernel_rfl) rfl (fun w hs => run_load Tryd.underlying3 rfl rfl (hs.cellAt 6 rfl rfl)) hK ?_ | refine aw_take 5 rfl (by kernel_rfl) (by kernel_rfl) (by kernel_rfl) rfl (fun w hs => run_load Tryd.underlying3 rfl rfl (hs.cellAt 7 rfl rfl)) hK ?_ | refine aw_take 5 rfl (by kernel_rfl) (by kernel_rfl) (by kernel_rfl) rfl (fun w hs => run_load Tryd.underlying3 rfl rfl (hs.cellAt 8 rfl rfl)) hK ?_ | refine aw_take 5 rfl (by kernel_rfl) (by kernel_rfl) (by kernel_rfl) rfl (fun w hs => run_load Tryd.underlying3 rfl rfl (hs.cellAt 9 rfl rfl)) hK ?_ | refine aw_take 5 rfl (by kernel_rfl) (by kernel_rfl) (by kernel_rfl) rfl (fun w hs => run_load Tryd.underlying3 rfl rfl (hs.cellAt 10 rfl rfl)) hK ?_ | refine aw_take 5 rfl (by kernel_rfl) (by kernel_rfl) (by kernel_rfl) rfl (fun w hs => run_load Tryd.underlying3 rfl rfl (hs.cellAt 11 rfl rfl)) hK ?_ | refine aw_take 5 rfl (by kernel_rfl) (by kernel_rfl) (by kernel_rfl) rfl (fun w hs => run_load Tryd.underlying3 rfl rfl (hs.cellAt 12 rfl rfl)) hK ?_ | refine aw_take 5 rfl (by kernel_rfl) (by kernel_rfl) (by kernel_rfl) rfl (fun w hs => run_load Tryd.underlying3 rfl rfl (hs.cellAt 13 rfl rfl)) hK ?_
    first | refine aw_take 6 rfl (by kernel_rfl) (by kernel_rfl) (by kernel_rfl) rfl (fun w hs => run_move (v := .pointer (some _)) rfl) hK ?_ | refine aw_take 6 rfl (by kernel_rfl) (by kernel_rfl) (by kernel_rfl) rfl (fun w hs => run_move (v := .pointer none) rfl) hK ?_
    refine aw_ready [7] (by kernel_rfl) (by simp) ?_
    refine ⟨⟨_, rfl, ?_⟩, trivial⟩
    refine lw_call rfl en53 (usedP_sl hs ho1 (by omega)) ?_
    clear hs
    rintro _ w ⟨rfl, hs⟩
    clear hK
    have hK := hs
    refine lw_nil ⟨hK, ?_⟩
    refine aw_take 8 rfl (by kernel_rfl) (by kernel_rfl) (by kernel_rfl) rfl (fun w hs => run_sub64 rfl rfl rfl (inI (by omega) (by omega))) hK ?_
    refine aw_take 9 rfl (by kernel_rfl) (by kernel_rfl) (by kernel_rfl) rfl (fun w hs => run_gtr rfl rfl) hK ?_
    refine aw_done (by kernel_rfl) ?_
    clear hK
    refine cw_if rfl ?_ ?_
    · intro h27
      have g27 := of_decide_eq_true h27
      refine cw_seq ?_
      refine cw_region ?_
      refine lw_val rfl (run_load Tryd.underlying30 rfl rfl (hE.cellW hs 109 (by decide) rfl)) ?_
      first | refine lw_val rfl (run_assign (v := errV ad _) rfl) ?_ | refine lw_val rfl (run_assign (v := .nilIface) rfl) ?_ | refine lw_val rfl (run_assign (v := eV ad _ _) rfl) ?_ | refine lw_val rfl (run_assign (v := .iface _ (.pointer (some _))) rfl) ?_
      refine lw_nil ?_
      refine cw_ret ?_
      first | refine res1 (v := errV ad _) rfl rfl ?_ | refine res1 (v := .nilIface) rfl rfl ?_ | refine res1 (v := eV ad _ _) rfl rfl ?_ | refine res1 (v := .iface _ (.pointer (some _))) rfl rfl ?_
      rw [if_pos (by omega)] at hk
      cases hk
      exact ⟨_, rfl, rfl, Mem.closeD ho1 hs⟩
    · intro h27
      have g27 := of_decide_eq_false h27
      refine cw_skip ?_
      refine cw_seq ?_
      rw [if_neg (by omega)] at hk
      cases hk
      obtain ⟨fa, fc, hfc, hs⟩ := hs.openFile hb2 hf
      have hfn := Dk.find_some hfd
      have hlu := Dk.len_used hfn.2.2.2
      refine cw_region ?_
      first | refine lw_val rfl (run_move (v := .pointer (some _)) rfl) ?_ | refine lw_val rfl (run_move (v := .pointer none) rfl) ?_
      first | refine lw_val rfl (run_move (v := .pointer (some _)) rfl) ?_ | refine lw_val rfl (run_move (v := .pointer none) rfl) ?_
      refine lw_val rfl (run_nilCheckP rfl) ?_
      first | refine lw_val rfl (run_fieldAddr (o' := 1) Tryd.underlying115 rfl sz23 rfl rfl rfl) ?_ | refine lw_val rfl (run_fieldAddr Tryd.underlying115 rfl sz23 rfl rfl rfl) ?_
      first | refine lw_val rfl (run_load Tryd.underlying23 rfl rfl (hs.cellAt 0 rfl rfl)) ?_ | refine lw_val rfl (run_load Tryd.underlying23 rfl rfl (hs.cellAt 1 rfl rfl)) ?_ | refine lw_val rfl (run_load Tryd.underlying23 rfl rfl (hs.cellAt 2 rfl rfl)) ?_ | refine lw_val rfl (run_load Tryd.underlying23 rfl rfl (hs.cellAt 3 rfl rfl)) ?_ | refine lw_val rfl (run_load Tryd.underlying23 rfl rfl (hs.cellAt 4 rfl rfl)) ?_ | refine lw_val rfl (run_load Tryd.underlying23 rfl rfl (hs.cellAt 5 rfl rfl)) ?_ | refine lw_val rfl (run_load Tryd.underlying23 rfl rfl (hs.cellAt 6 rfl rfl)) ?_ | refine lw_val rfl (run_load Tryd.underlying23 rfl rfl (hs.cellAt 7 rfl rfl)) ?_ | refine lw_val rfl (run_load Tryd.underlying23 rfl rfl (hs.cellAt 8 rfl rfl)) ?_ | refine lw_val rfl (run_load Tryd.underlying23 rfl rfl (hs.cellAt 9 rfl rfl)) ?_ | refine lw_val rfl (run_load Tryd.underlying23 rfl rfl (hs.cellAt 10 rfl rfl)) ?_ | refine lw_val rfl (run_load Tryd.underlying23 rfl rfl (hs.cellAt 11 rfl rfl)) ?_ | refine lw_val rfl (run_load Tryd.underlying23 rfl rfl (hs.cellAt 12 rfl rfl)) ?_ | refine lw_val rfl (run_load Tryd.underlying23 rfl rfl (hs.cellAt 13 rfl rfl)) ?_
      refine lw_call rfl en80 (clip_sl hs 1 rfl (by omega)) ?_
      clear hs
      rintro _ w ⟨rfl, hs⟩
      first | refine lw_val rfl (run_move (v := .slice _ _ _) rfl) ?_
      refine lw_append hs rfl 1 rfl Tryd.underlying23 in5 rfl rfl rfl (src_of_seq (P := Tryd.prog) Tryd.underlying23 (hr0.seq (hs.suffix 7 rfl)) (bytesL_one x)) (by simp only [bytesL_len]; omega) (by simp only [bytesL_len]; omega) ?_
      clear hs
      intro a36 c36 w hs
      simp only [List.set_cons_succ, List.set_cons_zero] at hs
      refine lw_val rfl (run_nilCheckP rfl) ?_
      first | refine lw_val rfl (run_fieldAddr (o' := 1) Tryd.underlying115 rfl sz23 rfl rfl rfl) ?_ | refine lw_val rfl (run_fieldAddr Tryd.underlying115 rfl sz23 rfl rfl rfl) ?_
      first | refine lw_store (v := .slice _ _ _) hs 0 rfl sz23 rfl rfl rfl rfl ?_ | refine lw_store (v := .slice _ _ _) hs 1 rfl sz23 rfl rfl rfl rfl ?_ | refine lw_store (v := .slice _ _ _) hs 2 rfl sz23 rfl rfl rfl rfl ?_ | refine lw_store (v := .slice _ _ _) hs 3 rfl sz23 rfl rfl rfl rfl ?_ | refine lw_store (v := .slice _ _ _) hs 4 rfl sz23 rfl rfl rfl rfl ?_ | refine lw_store (v := .slice _ _ _) hs 5 rfl sz23 rfl rfl rfl rfl ?_ | refine lw_store (v := .slice _ _ _) hs 6 rfl sz23 rfl rfl rfl rfl ?_ | refine lw_store (v := .slice _ _ _) hs 7 rfl sz23 rfl rfl rfl rfl ?_ | refine lw_store (v := .slice _ _ _) hs 8 rfl sz23 rfl rfl rfl rfl ?_ | refine lw_store (v := .slice _ _ _) hs 9 rfl sz23 rfl rfl rfl rfl ?_ | refine lw_store (v := .slice _ _ _) hs 10 rfl sz23 rfl rfl rfl rfl ?_ | refine lw_store (v := .slice _ _ _) hs 11 rfl sz23 rfl rfl rfl rfl ?_ | refine lw_store (v := .slice _ _ _) hs 12 rfl sz23 rfl rfl rfl rfl ?_ | refine lw_store (v := .slice _ _ _) hs 13 rfl sz23 rfl rfl rfl rfl ?_
      clear hs
      intro w hs
      try simp only [List.set_cons_succ, List.set_cons_zero] at hs
      refine lw_nil ?_
      refine cw_seq ?_
      refine cw_region ?_
      first | refine lw_val rfl (run_move (v := .pointer (some _)) rfl) ?_ | refine lw_val rfl (run_move (v := .pointer none) rfl) ?_
      refine lw_val rfl (run_nilCheckP rfl) ?_
      first | refine lw_val rfl (run_fieldAddr (o' := 7) Tryd.underlying110 rfl sz3 rfl rfl rfl) ?_ | refine lw_val rfl (run_fieldAddr Tryd.underlying110 rfl sz3 rfl rfl rfl) ?_
      first | refine lw_val rfl (run_load Tryd.underlying3 rfl rfl (hs.cellAt 0 rfl rfl)) ?_ | refine lw_val rfl (run_load Tryd.underlying3 rfl rfl (hs.cellAt 1 rfl rfl)) ?_ | refine lw_val rfl (run_load Tryd.underlying3 rfl rfl (hs.cellAt 2 rfl rfl)) ?_ | refine lw_val rfl (run_load Tryd.underlying3 rfl rfl (hs.cellAt 3 rfl rfl)) ?_ | refine lw_val rfl (run_load Tryd.underlying3 rfl rfl (hs.cellAt 4 rfl rfl)) ?_ | refine lw_val rfl (run_load Tryd.underlying3 rfl rfl (hs.cellAt 5 rfl rfl)) ?_ | refine lw_val rfl (run_load Tryd.underlying3 rfl rfl (hs.cellAt 6 rfl rfl)) ?_ | refine lw_val rfl (run_load Tryd.underlying3 rfl rfl (hs.cellAt 7 rfl rfl)) ?_ | refine lw_val rfl (run_load Tryd.underlying3 rfl rfl (hs.cellAt 8 rfl rfl)) ?_ | refine lw_val rfl (run_load Tryd.underlying3 rfl rfl (hs.cellAt 9 rfl rfl)) ?_ | refine lw_val rfl (run_load Tryd.underlying3 rfl rfl (hs.cellAt 10 rfl rfl)) ?_ | refine lw_val rfl (run_load Tryd.underlying3 rfl rfl (hs.cellAt 11 rfl rfl)) ?_ | refine lw_val rfl (run_load Tryd.underlying3 rfl rfl (hs.cellAt 12 rfl rfl)) ?_ | refine lw_val rfl (run_load Tryd.underlying3 rfl rfl (hs.cellAt 13 rfl rfl)) ?_
      refine lw_val rfl (run_add64 rfl rfl rfl (inI (by omega) (by omega))) ?_
      refine lw_val rfl (run_nilCheckP rfl) ?_
      first | refine lw_val rfl (run_fieldAddr (o' := 7) Tryd.underlying110 rfl sz3 rfl rfl rfl) ?_ | refine lw_val rfl (run_fieldAddr Tryd.underlying110 rfl sz3 rfl rfl rfl) ?_
      first | refine lw_store (v := .int .i64 _) hs 0 rfl sz3 rfl rfl rfl rfl ?_ | refine lw_store (v := .int .i64 _) hs 1 rfl sz3 rfl rfl rfl rfl ?_ | refine lw_store (v := .int .i64 _) hs 2 rfl sz3 rfl rfl rfl rfl ?_ | refine lw_store (v := .int .i64 _) hs 3 rfl sz3 rfl rfl rfl rfl ?_ | refine lw_store (v := .int .i64 _) hs 4 rfl sz3 rfl rfl rfl rfl ?_ | refine lw_store (v := .int .i64 _) hs 5 rfl sz3 rfl rfl rfl rfl ?_ | refine lw_store (v := .int .i64 _) hs 6 rfl sz3 rfl rfl rfl rfl ?_ | refine lw_store (v := .int .i64 _) hs 7 rfl sz3 rfl rfl rfl rfl ?_ | refine lw_store (v := .int .i64 _) hs 8 rfl sz3 rfl rfl rfl rfl ?_ | refine lw_store (v := .int .i64 _) hs 9 rfl sz3 rfl rfl rfl rfl ?_ | refine lw_store (v := .int .i64 _) hs 10 rfl sz3 rfl rfl rfl rfl ?_ | refine lw_store (v := .int .i64 _) hs 11 rfl sz3 rfl rfl rfl rfl ?_ | refine lw_store (v := .int .i64 _) hs 12 rfl sz3 rfl rfl rfl rfl ?_ | refine lw_store (v := .int .i64 _) hs 13 rfl sz3 rfl rfl rfl rfl ?_
      clear hs
      intro w hs
      try simp only [List.set_cons_succ, List.set_cons_zero] at hs
      refine lw_nil ?_
      refine cw_seq ?_
      refine cw_region ?_
      first | refine lw_val rfl (run_assign (v := errV ad _) rfl) ?_ | refine lw_val rfl (run_assign (v := .nilIface) rfl) ?_ | refine lw_val rfl (run_assign (v := eV ad _ _) rfl) ?_ | refine lw_val rfl (run_assign (v := .iface _ (.pointer (some _))) rfl) ?_
      refine lw_nil ?_
      refine cw_ret ?_
      first | refine res1 (v := errV ad _) rfl rfl ?_ | refine res1 (v := .nilIface) rfl rfl ?_ | refine res1 (v := eV ad _ _) rfl rfl ?_ | refine res1 (v := .iface _ (.pointer (some _))) rfl rfl ?_
      exact ⟨_, rfl, (errV_zero ad).symm, Mem.closeD (ho1.setF hki ⟨hfl.1, by simp; omega, by simp; omega⟩) (Mem.shutFile (L := L) hb2 (Mem.closeF2 (f := { d1.fl i with b := (d1.fl i).b ++ x }) rfl (by simp [bytesL_len]) rfl (bytesL_app _ _).symm hs))⟩
theorem remove_sl (hE : ErrK ad g) (hs : Mem g w (DiskC p d :: L)) (hcl : d.calls < 1000000) (n : ByteArray) {k : Nat} {d2 : Dk} (hk : d.remove n = (k, d2)) : Calls Tryd.prog 49 #[.pointer (some ⟨p, 0, none⟩), .string n] w (Ret fun v w' => v = errV ad k ∧ Mem g w' (DiskC p d2 :: L)) := by
  obtain ⟨ho, mn, mk, sa, sc, ptr, hs⟩ := hs.openD
  obtain ⟨c0, o, d1, hfd⟩ : ∃ c0 o d1, d.find n = (c0, o, d1) := ⟨_, _, _, rfl⟩
  have hb := d.begin_same
  rw [← Dk.find_dk hfd] at hb
  have ho1 := ho.find hfd
  have hkl := ho1.kl
  refine calls_cw Tryd.func49 rfl rfl ?_
  skip
  refine cw_seq ?_
  refine cw_region ?_
  first | refine lw_val rfl (run_assign (v := errV ad _) rfl) ?_ | refine lw_val rfl (run_assign (v := .nilIface) rfl) ?_ | refine lw_val rfl (run_assign (v := eV ad _ _) rfl) ?_ | refine lw_val rfl (run_assign (v := .iface _ (.pointer (some _))) rfl) ?_
  refine lw_nil ?_
  refine cw_seq ?_
  refine cw_seq ?_
  refine cw_region ?_
  first | refine lw_val rfl (run_move (v := .pointer (some _)) rfl) ?_ | refine lw_val rfl (run_move (v := .pointer none) rfl) ?_
  first | refine lw_val rfl (run_move (v := .string _) rfl) ?_
  refine lw_call rfl en79 (find_sl hE ho n hs hfd) ?_
  clear hs
  rintro _ w ((⟨c, hc, h0, hr, rfl, hs⟩) | (⟨i, b, hr, hki, hb2, hf, rfl, hs⟩))
  · skip
    first | refine lw_val rfl (run_move (v := .tuple _) rfl) ?_
    first | refine lw_val rfl (run_extract (v := .pointer (some _)) rfl rfl) ?_ | refine lw_val rfl (run_extract (v := .pointer none) rfl rfl) ?_
    first | refine lw_val rfl (run_extract (v := errV ad _) rfl rfl) ?_ | refine lw_val rfl (run_extract (v := .nilIface) rfl rfl) ?_ | refine lw_val rfl (run_extract (v := eV ad _ _) rfl rfl) ?_ | refine lw_val rfl (run_extract (v := .iface _ (.pointer (some _))) rfl rfl) ?_
    first | refine lw_val rfl (run_assign (v := .pointer (some _)) rfl) ?_ | refine lw_val rfl (run_assign (v := .pointer none) rfl) ?_
    first | refine lw_val rfl (run_assign (v := errV ad _) rfl) ?_ | refine lw_val rfl (run_assign (v := .nilIface) rfl) ?_ | refine lw_val rfl (run_assign (v := eV ad _ _) rfl) ?_ | refine lw_val rfl (run_assign (v := .iface _ (.pointer (some _))) rfl) ?_
    refine lw_nil ?_
    refine cw_seq ?_
    refine cw_region ?_
    first | refine lw_val rfl (run_move (v := errV ad _) rfl) ?_ | refine lw_val rfl (run_move (v := .nilIface) rfl) ?_ | refine lw_val rfl (run_move (v := eV ad _ _) rfl) ?_ | refine lw_val rfl (run_move (v := .iface _ (.pointer (some _))) rfl) ?_
    first | refine lw_val rfl (run_neerrn (ad := ad) rfl) ?_ | refine lw_val rfl (run_nenn rfl) ?_ | refine lw_val rfl (run_neE (ad := ad) rfl) ?_
    refine lw_nil ?_
    refine cw_ift rfl (by simp [h0]) ?_
    refine cw_seq ?_
    refine cw_region ?_
    first | refine lw_val rfl (run_move (v := errV ad _) rfl) ?_ | refine lw_val rfl (run_move (v := .nilIface) rfl) ?_ | refine lw_val rfl (run_move (v := eV ad _ _) rfl) ?_ | refine lw_val rfl (run_move (v := .iface _ (.pointer (some _))) rfl) ?_
    first | refine lw_val rfl (run_assign (v := errV ad _) rfl) ?_ | refine lw_val rfl (run_assign (v := .nilIface) rfl) ?_ | refine lw_val rfl (run_assign (v := eV ad _ _) rfl) ?_ | refine lw_val rfl (run_assign (v := .iface _ (.pointer (some _))) rfl) ?_
    refine lw_nil ?_
    refine cw_ret ?_
    first | refine res1 (v := errV ad _) rfl rfl ?_ | refine res1 (v := .nilIface) rfl rfl ?_ | refine res1 (v := eV ad _ _) rfl rfl ?_ | refine res1 (v := .iface _ (.pointer (some _))) rfl rfl ?_
    cases hr
    simp only [Dk.remove, hfd] at hk
    cases hk
    exact ⟨_, rfl, rfl, Mem.closeD ho1 hs⟩
  · skip
    first | refine lw_val rfl (run_move (v := .tuple _) rfl) ?_
    first | refine lw_val rfl (run_extract (v := .pointer (some _)) rfl rfl) ?_ | refine lw_val rfl (run_extract (v := .pointer none) rfl rfl) ?_
    first | refine lw_val rfl (run_extract (v := errV ad _) rfl rfl) ?_ | refine lw_val rfl (run_extract (v := .nilIface) rfl rfl) ?_ | refine lw_val rfl (run_extract (v := eV ad _ _) rfl rfl) ?_ | refine lw_val rfl (run_extract (v := .iface _ (.pointer (some _))) rfl rfl) ?_
    first | refine lw_val rfl (run_assign (v := .pointer (some _)) rfl) ?_ | refine lw_val rfl (run_assign (v := .pointer none) rfl) ?_
    first | refine lw_val rfl (run_assign (v := errV ad _) rfl) ?_ | refine lw_val rfl (run_assign (v := .nilIface) rfl) ?_ | refine lw_val rfl (run_assign (v := eV ad _ _) rfl) ?_ | refine lw_val rfl (run_assign (v := .iface _ (.pointer (some _))) rfl) ?_
    refine lw_nil ?_
    refine cw_seq ?_
    refine cw_region ?_
    first | refine lw_val rfl (run_move (v := errV ad _) rfl) ?_ | refine lw_val rfl (run_move (v := .nilIface) rfl) ?_ | refine lw_val rfl (run_move (v := eV ad _ _) rfl) ?_ | refine lw_val rfl (run_move (v := .iface _ (.pointer (some _))) rfl) ?_
    first | refine lw_val rfl (run_neerrn (ad := ad) rfl) ?_ | refine lw_val rfl (run_nenn rfl) ?_ | refine lw_val rfl (run_neE (ad := ad) rfl) ?_
    refine lw_nil ?_
    refine cw_iff rfl (rfl) ?_
    refine cw_skip ?_
    refine cw_seq ?_
    cases hr
    simp only [Dk.remove, hfd] at hk
    cases hk
    refine cw_region ?_
    first | refine lw_val rfl (run_move (v := .pointer (some _)) rfl) ?_ | refine lw_val rfl (run_move (v := .pointer none) rfl) ?_
    first | refine lw_val rfl (run_move (v := .string _) rfl) ?_
    refine lw_val rfl (run_build (cs := [.string ByteArray.empty, .string n, .pointer none]) Tryd.underlying117 ze117 pl117 rfl) ?_
    refine lw_call rfl en78 (change_sl (by omega) (by omega) hs ⟨ByteArray.empty, n, none⟩ (fun i hi => by cases hi) (row := [.string ByteArray.empty, .string n, .pointer none]) rfl) ?_
    clear hs
    rintro _ w ⟨rfl, sa2, sc2, hs⟩
    refine lw_nil ?_
    refine cw_seq ?_
    refine cw_region ?_
    first | refine lw_val rfl (run_assign (v := errV ad _) rfl) ?_ | refine lw_val rfl (run_assign (v := .nilIface) rfl) ?_ | refine lw_val rfl (run_assign (v := eV ad _ _) rfl) ?_ | refine lw_val rfl (run_assign (v := .iface _ (.pointer (some _))) rfl) ?_
    refine lw_nil ?_
    refine cw_ret ?_
    first | refine res1 (v := errV ad _) rfl rfl ?_ | refine res1 (v := .nilIface) rfl rfl ?_ | refine res1 (v := eV ad _ _) rfl rfl ?_ | refine res1 (v := .iface _ (.pointer (some _))) rfl rfl ?_
    exact ⟨_, rfl, (errV_zero ad).symm, Mem.closeD (ho1.change fun i hi => by cases hi) hs⟩
theorem rename_sl (hE : ErrK ad g) (hs : Mem g w (DiskC p d :: L)) (hcl : d.calls < 1000000) (n m : ByteArray) {k : Nat} {d2 : Dk} (hk : d.rename n m = (k, d2)) : Calls Tryd.prog 50 #[.pointer (some ⟨p, 0, none⟩), .string n, .string m] w (Ret fun v w' => v = errV ad k ∧ Mem g w' (DiskC p d2 :: L)) := by
  obtain ⟨ho, mn, mk, sa, sc, ptr, hs⟩ := hs.openD
  obtain ⟨c0, o, d1, hfd⟩ : ∃ c0 o d1, d.find n = (c0, o, d1) := ⟨_, _, _, rfl⟩
  have hb := d.begin_same
  rw [← Dk.find_dk hfd] at hb
  have ho1 := ho.find hfd
  have hkl := ho1.kl
  refine calls_cw Tryd.func50 rfl rfl ?_
  skip
  refine cw_seq ?_
  refine cw_region ?_
  first | refine lw_val rfl (run_assign (v := errV ad _) rfl) ?_ | refine lw_val rfl (run_assign (v := .nilIface) rfl) ?_ | refine lw_val rfl (run_assign (v := eV ad _ _) rfl) ?_ | refine lw_val rfl (run_assign (v := .iface _ (.pointer (some _))) rfl) ?_
  refine lw_nil ?_
  refine cw_seq ?_
  refine cw_region ?_
  first | refine lw_val rfl (run_move (v := .pointer (some _)) rfl) ?_ | refine lw_val rfl (run_move (v := .pointer none) rfl) ?_
  first | refine lw_val rfl (run_move (v := .string _) rfl) ?_
  refine lw_call rfl en79 (find_sl hE ho n hs hfd) ?_
  clear hs
  rintro _ w ((⟨c, hc, h0, hr, rfl, hs⟩) | (⟨i, b, hr, hki, hb2, hf, rfl, hs⟩))
  · skip
    first | refine lw_val rfl (run_move (v := .tuple _) rfl) ?_
    first | refine lw_val rfl (run_extract (v := .pointer (some _)) rfl rfl) ?_ | refine lw_val rfl (run_extract (v := .pointer none) rfl rfl) ?_
    first | refine lw_val rfl (run_extract (v := errV ad _) rfl rfl) ?_ | refine lw_val rfl (run_extract (v := .nilIface) rfl rfl) ?_ | refine lw_val rfl (run_extract (v := eV ad _ _) rfl rfl) ?_ | refine lw_val rfl (run_extract (v := .iface _ (.pointer (some _))) rfl rfl) ?_
    first | refine lw_val rfl (run_assign (v := .pointer (some _)) rfl) ?_ | refine lw_val rfl (run_assign (v := .pointer none) rfl) ?_
    first | refine lw_val rfl (run_assign (v := errV ad _) rfl) ?_ | refine lw_val rfl (run_assign (v := .nilIface) rfl) ?_ | refine lw_val rfl (run_assign (v := eV ad _ _) rfl) ?_ | refine lw_val rfl (run_assign (v := .iface _ (.pointer (some _))) rfl) ?_
    refine lw_nil ?_
    refine cw_seq ?_
    refine cw_seq ?_
    refine cw_region ?_
    first | refine lw_val rfl (run_move (v := errV ad _) rfl) ?_ | refine lw_val rfl (run_move (v := .nilIface) rfl) ?_ | refine lw_val rfl (run_move (v := eV ad _ _) rfl) ?_ | refine lw_val rfl (run_move (v := .iface _ (.pointer (some _))) rfl) ?_
    first | refine lw_val rfl (run_neerrn (ad := ad) rfl) ?_ | refine lw_val rfl (run_nenn rfl) ?_ | refine lw_val rfl (run_neE (ad := ad) rfl) ?_
    refine lw_nil ?_
    refine cw_ift rfl (by simp [h0]) ?_
    refine cw_seq ?_
    refine cw_region ?_
    first | refine lw_val rfl (run_move (v := errV ad _) rfl) ?_ | refine lw_val rfl (run_move (v := .nilIface) rfl) ?_ | refine lw_val rfl (run_move (v := eV ad _ _) rfl) ?_ | refine lw_val rfl (run_move (v := .iface _ (.pointer (some _))) rfl) ?_
    first | refine lw_val rfl (run_assign (v := errV ad _) rfl) ?_ | refine lw_val rfl (run_assign (v := .nilIface) rfl) ?_ | refine lw_val rfl (run_assign (v := eV ad _ _) rfl) ?_ | refine lw_val rfl (run_assign (v := .iface _ (.pointer (some _))) rfl) ?_
    refine lw_nil ?_
    refine cw_ret ?_
    first | refine res1 (v := errV ad _) rfl rfl ?_ | refine res1 (v := .nilIface) rfl rfl ?_ | refine res1 (v := eV ad _ _) rfl rfl ?_ | refine res1 (v := .iface _ (.pointer (some _))) rfl rfl ?_
    cases hr
    simp only [Dk.rename, hfd] at hk
    cases hk
    exact ⟨_, rfl, rfl, Mem.closeD ho1 hs⟩
  · skip
    first | refine lw_val rfl (run_move (v := .tuple _) rfl) ?_
    first | refine lw_val rfl (run_extract (v := .pointer (some _)) rfl rfl) ?_ | refine lw_val rfl (run_extract (v := .pointer none) rfl rfl) ?_
    first | refine lw_val rfl (run_extract (v := errV ad _) rfl rfl) ?_ | refine lw_val rfl (run_extract (v := .nilIface) rfl rfl) ?_ | refine lw_val rfl (run_extract (v := eV ad _ _) rfl rfl) ?_ | refine lw_val rfl (run_extract (v := .iface _ (.pointer (some _))) rfl rfl) ?_
    first | refine lw_val rfl (run_assign (v := .pointer (some _)) rfl) ?_ | refine lw_val rfl (run_assign (v := .pointer none) rfl) ?_
    first | refine lw_val rfl (run_assign (v := errV ad _) rfl) ?_ | refine lw_val rfl (run_assign (v := .nilIface) rfl) ?_ | refine lw_val rfl (run_assign (v := eV ad _ _) rfl) ?_ | refine lw_val rfl (run_assign (v := .iface _ (.pointer (some _))) rfl) ?_
    refine lw_nil ?_
    refine cw_seq ?_
    refine cw_seq ?_
    refine cw_region ?_
    first | refine lw_val rfl (run_move (v := errV ad _) rfl) ?_ | refine lw_val rfl (run_move (v := .nilIface) rfl) ?_ | refine lw_val rfl (run_move (v := eV ad _ _) rfl) ?_ | refine lw_val rfl (run_move (v := .iface _ (.pointer (some _))) rfl) ?_
    first | refine lw_val rfl (run_neerrn (ad := ad) rfl) ?_ | refine lw_val rfl (run_nenn rfl) ?_ | refine lw_val rfl (run_neE (ad := ad) rfl) ?_
    refine lw_nil ?_
    refine cw_iff rfl (rfl) ?_
    refine cw_skip ?_
    refine cw_seq ?_
    refine cw_seq ?_
    cases hr
    simp only [Dk.rename, hfd] at hk
    refine cw_region ?_
    first | refine lw_val rfl (run_move (v := .string _) rfl) ?_
    refine lw_call rfl en70 (valid_sl hs m) ?_
    clear hs
    rintro _ w ⟨rfl, hs⟩
    refine lw_val rfl (run_not rfl) ?_
    refine lw_nil ?_
    refine cw_if rfl ?_ ?_
    · intro h20
      replace h20 := not_b h20
      refine cw_seq ?_
      refine cw_region ?_
      refine lw_val rfl (run_load Tryd.underlying30 rfl rfl (hE.cellW hs 106 (by decide) rfl)) ?_
      first | refine lw_val rfl (run_assign (v := errV ad _) rfl) ?_ | refine lw_val rfl (run_assign (v := .nilIface) rfl) ?_ | refine lw_val rfl (run_assign (v := eV ad _ _) rfl) ?_ | refine lw_val rfl (run_assign (v := .iface _ (.pointer (some _))) rfl) ?_
      refine lw_nil ?_
      refine cw_ret ?_
      first | refine res1 (v := errV ad _) rfl rfl ?_ | refine res1 (v := .nilIface) rfl rfl ?_ | refine res1 (v := eV ad _ _) rfl rfl ?_ | refine res1 (v := .iface _ (.pointer (some _))) rfl rfl ?_
      rw [if_pos h20] at hk
      cases hk
      exact ⟨_, rfl, rfl, Mem.closeD ho1 hs⟩
    · intro h20
      replace h20 := not_c h20
      refine cw_skip ?_
      refine cw_seq ?_
      rw [if_neg (by simp [h20])] at hk
      cases hk
      refine cw_region ?_
      first | refine lw_val rfl (run_move (v := .string _) rfl) ?_
      first | refine lw_val rfl (run_move (v := .string _) rfl) ?_
      first | refine lw_val rfl (run_move (v := .pointer (some _)) rfl) ?_ | refine lw_val rfl (run_move (v := .pointer none) rfl) ?_
      refine lw_val rfl (run_build (cs := [.string m, .string n, .pointer (some ⟨b, 0, none⟩)]) Tryd.underlying117 ze117 pl117 rfl) ?_
      refine lw_alloc hs rfl ze117 ?_
      clear hs
      intro b9 w hs
      try simp only [List.set_cons_succ, List.set_cons_zero] at hs
      first | refine lw_storeRow hs 0 rfl rfl rfl sz117 rfl rfl ?_ | refine lw_storeRow hs 1 rfl rfl rfl sz117 rfl rfl ?_ | refine lw_storeRow hs 2 rfl rfl rfl sz117 rfl rfl ?_ | refine lw_storeRow hs 3 rfl rfl rfl sz117 rfl rfl ?_ | refine lw_storeRow hs 4 rfl rfl rfl sz117 rfl rfl ?_ | refine lw_storeRow hs 5 rfl rfl rfl sz117 rfl rfl ?_ | refine lw_storeRow hs 6 rfl rfl rfl sz117 rfl rfl ?_ | refine lw_storeRow hs 7 rfl rfl rfl sz117 rfl rfl ?_ | refine lw_storeRow hs 8 rfl rfl rfl sz117 rfl rfl ?_ | refine lw_storeRow hs 9 rfl rfl rfl sz117 rfl rfl ?_ | refine lw_storeRow hs 10 rfl rfl rfl sz117 rfl rfl ?_ | refine lw_storeRow hs 11 rfl rfl rfl sz117 rfl rfl ?_ | refine lw_storeRow hs 12 rfl rfl rfl sz117 rfl rfl ?_ | refine lw_storeRow hs 13 rfl rfl rfl sz117 rfl rfl ?_
      clear hs
      intro w hs
      try simp only [List.set_cons_succ, List.set_cons_zero] at hs
      refine lw_nil ?_
      refine cw_seq ?_
      refine cw_seq ?_
      refine cw_region ?_
      first | refine lw_val rfl (run_move (v := .string _) rfl) ?_
      first | refine lw_val rfl (run_move (v := .string _) rfl) ?_
      refine lw_val rfl (run_eqs rfl rfl) ?_
      refine lw_nil ?_
      refine cw_if rfl ?_ ?_
      · intro h29
        have g29 := of_decide_eq_true h29
        refine cw_region ?_
        first | refine lw_val rfl (run_fieldAddr (o' := 1) Tryd.underlying117 rfl sz9 rfl rfl rfl) ?_ | refine lw_val rfl (run_fieldAddr Tryd.underlying117 rfl sz9 rfl rfl rfl) ?_
        first | refine lw_store (v := .string _) hs 0 rfl sz9 rfl rfl rfl rfl ?_ | refine lw_store (v := .string _) hs 1 rfl sz9 rfl rfl rfl rfl ?_ | refine lw_store (v := .string _) hs 2 rfl sz9 rfl rfl rfl rfl ?_ | refine lw_store (v := .string _) hs 3 rfl sz9 rfl rfl rfl rfl ?_ | refine lw_store (v := .string _) hs 4 rfl sz9 rfl rfl rfl rfl ?_ | refine lw_store (v := .string _) hs 5 rfl sz9 rfl rfl rfl rfl ?_ | refine lw_store (v := .string _) hs 6 rfl sz9 rfl rfl rfl rfl ?_ | refine lw_store (v := .string _) hs 7 rfl sz9 rfl rfl rfl rfl ?_ | refine lw_store (v := .string _) hs 8 rfl sz9 rfl rfl rfl rfl ?_ | refine lw_store (v := .string _) hs 9 rfl sz9 rfl rfl rfl rfl ?_ | refine lw_store (v := .string _) hs 10 rfl sz9 rfl rfl rfl rfl ?_ | refine lw_store (v := .string _) hs 11 rfl sz9 rfl rfl rfl rfl ?_ | refine lw_store (v := .string _) hs 12 rfl sz9 rfl rfl rfl rfl ?_ | refine lw_store (v := .string _) hs 13 rfl sz9 rfl rfl rfl rfl ?_
        clear hs
        intro w hs
        try simp only [List.set_cons_succ, List.set_cons_zero] at hs
        refine lw_nil ?_
        refine cw_seq ?_
        refine cw_region ?_
        first | refine lw_val rfl (run_move (v := .pointer (some _)) rfl) ?_ | refine lw_val rfl (run_move (v := .pointer none) rfl) ?_
        first | refine lw_val rfl (run_loadRow hs 0 rfl Tryd.underlying117 sz117 rfl) ?_ | refine lw_val rfl (run_loadRow hs 1 rfl Tryd.underlying117 sz117 rfl) ?_ | refine lw_val rfl (run_loadRow hs 2 rfl Tryd.underlying117 sz117 rfl) ?_ | refine lw_val rfl (run_loadRow hs 3 rfl Tryd.underlying117 sz117 rfl) ?_ | refine lw_val rfl (run_loadRow hs 4 rfl Tryd.underlying117 sz117 rfl) ?_ | refine lw_val rfl (run_loadRow hs 5 rfl Tryd.underlying117 sz117 rfl) ?_ | refine lw_val rfl (run_loadRow hs 6 rfl Tryd.underlying117 sz117 rfl) ?_ | refine lw_val rfl (run_loadRow hs 7 rfl Tryd.underlying117 sz117 rfl) ?_ | refine lw_val rfl (run_loadRow hs 8 rfl Tryd.underlying117 sz117 rfl) ?_ | refine lw_val rfl (run_loadRow hs 9 rfl Tryd.underlying117 sz117 rfl) ?_ | refine lw_val rfl (run_loadRow hs 10 rfl Tryd.underlying117 sz117 rfl) ?_ | refine lw_val rfl (run_loadRow hs 11 rfl Tryd.underlying117 sz117 rfl) ?_ | refine lw_val rfl (run_loadRow hs 12 rfl Tryd.underlying117 sz117 rfl) ?_ | refine lw_val rfl (run_loadRow hs 13 rfl Tryd.underlying117 sz117 rfl) ?_
        refine lw_call rfl en78 (change_sl (d := d1) (L := cells b9 _ _ :: L) (by omega) (by omega) (hs.arr [1, 2, 3, 4, 5, 0] 6 (by decide)) ⟨m, ByteArray.empty, some i⟩ (fun j hj => by cases hj; exact ⟨b, hb2⟩) (row := [.string m, .string ByteArray.empty, .pointer (some ⟨b, 0, none⟩)]) (by simp [chgV, fptr_some hb2])) ?_
        clear hs
        rintro _ w ⟨rfl, sa2, sc2, hs⟩
        refine lw_nil ?_
        refine cw_seq ?_
        refine cw_region ?_
        first | refine lw_val rfl (run_assign (v := errV ad _) rfl) ?_ | refine lw_val rfl (run_assign (v := .nilIface) rfl) ?_ | refine lw_val rfl (run_assign (v := eV ad _ _) rfl) ?_ | refine lw_val rfl (run_assign (v := .iface _ (.pointer (some _))) rfl) ?_
        refine lw_nil ?_
        refine cw_ret ?_
        first | refine res1 (v := errV ad _) rfl rfl ?_ | refine res1 (v := .nilIface) rfl rfl ?_ | refine res1 (v := eV ad _ _) rfl rfl ?_ | refine res1 (v := .iface _ (.pointer (some _))) rfl rfl ?_
        rw [if_pos g29]
        exact ⟨_, rfl, (errV_zero ad).symm, Mem.closeD (ho1.change fun j hj => by cases hj; exact hki) (hs.drop 5)⟩
      · intro h29
        have g29 := of_decide_eq_false h29
        refine cw_skip ?_
        refine cw_seq ?_
        refine cw_region ?_
        first | refine lw_val rfl (run_move (v := .pointer (some _)) rfl) ?_ | refine lw_val rfl (run_move (v := .pointer none) rfl) ?_
        first | refine lw_val rfl (run_loadRow hs 0 rfl Tryd.underlying117 sz117 rfl) ?_ | refine lw_val rfl (run_loadRow hs 1 rfl Tryd.underlying117 sz117 rfl) ?_ | refine lw_val rfl (run_loadRow hs 2 rfl Tryd.underlying117 sz117 rfl) ?_ | refine lw_val rfl (run_loadRow hs 3 rfl Tryd.underlying117 sz117 rfl) ?_ | refine lw_val rfl (run_loadRow hs 4 rfl Tryd.underlying117 sz117 rfl) ?_ | refine lw_val rfl (run_loadRow hs 5 rfl Tryd.underlying117 sz117 rfl) ?_ | refine lw_val rfl (run_loadRow hs 6 rfl Tryd.underlying117 sz117 rfl) ?_ | refine lw_val rfl (run_loadRow hs 7 rfl Tryd.underlying117 sz117 rfl) ?_ | refine lw_val rfl (run_loadRow hs 8 rfl Tryd.underlying117 sz117 rfl) ?_ | refine lw_val rfl (run_loadRow hs 9 rfl Tryd.underlying117 sz117 rfl) ?_ | refine lw_val rfl (run_loadRow hs 10 rfl Tryd.underlying117 sz117 rfl) ?_ | refine lw_val rfl (run_loadRow hs 11 rfl Tryd.underlying117 sz117 rfl) ?_ | refine lw_val rfl (run_loadRow hs 12 rfl Tryd.underlying117 sz117 rfl) ?_ | refine lw_val rfl (run_loadRow hs 13 rfl Tryd.underlying117 sz117 rfl) ?_
        refine lw_call rfl en78 (change_sl (d := d1) (L := cells b9 _ _ :: L) (by omega) (by omega) (hs.arr [1, 2, 3, 4, 5, 0] 6 (by decide)) ⟨m, n, some i⟩ (fun j hj => by cases hj; exact ⟨b, hb2⟩) (row := [.string m, .string n, .pointer (some ⟨b, 0, none⟩)]) (by simp [chgV, fptr_some hb2])) ?_
        clear hs
        rintro _ w ⟨rfl, sa2, sc2, hs⟩
        refine lw_nil ?_
        refine cw_seq ?_
        refine cw_region ?_
        first | refine lw_val rfl (run_assign (v := errV ad _) rfl) ?_ | refine lw_val rfl (run_assign (v := .nilIface) rfl) ?_ | refine lw_val rfl (run_assign (v := eV ad _ _) rfl) ?_ | refine lw_val rfl (run_assign (v := .iface _ (.pointer (some _))) rfl) ?_
        refine lw_nil ?_
        refine cw_ret ?_
        first | refine res1 (v := errV ad _) rfl rfl ?_ | refine res1 (v := .nilIface) rfl rfl ?_ | refine res1 (v := eV ad _ _) rfl rfl ?_ | refine res1 (v := .iface _ (.pointer (some _))) rfl rfl ?_
        rw [if_neg g29]
        exact ⟨_, rfl, (errV_zero ad).symm, Mem.closeD (ho1.change fun j hj => by cases hj; exact hki) (hs.drop 5)⟩
end Go.Proofs.YtmnfehbnjgmgjaaDoor
