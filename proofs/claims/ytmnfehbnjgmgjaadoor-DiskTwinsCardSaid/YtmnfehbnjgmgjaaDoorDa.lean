/- The disk, over chunks: New, begin, file, find, apply, change. -/
import Derived.Test.YtmnfehbnjgmgjaaDoorDm
import Derived.Test.YtmnfehbnjgmgjaaDoorG
namespace Go.Proofs.YtmnfehbnjgmgjaaDoor
set_option linter.all false
open Go.RowKit
attribute [local irreducible] errV
variable {g w : World} {L M : List HP} {ad : Nat → Addr} {p mn mk sc : Nat} {sa : Option Addr} {d : Dk} {ptr : List (Nat × Nat)}

/-- The codes that the disk speaks of. -/
def diskCodes : List Nat := [105, 106, 107, 108, 109, 110]
theorem disk_all {c : Nat} (h : c ∈ diskCodes) : c ∈ allCodes := by
  simp only [diskCodes, allCodes, List.mem_cons, List.not_mem_nil, or_false] at *; omega
abbrev ErrK (ad : Nat → Addr) (g : World) : Prop := Errs diskCodes ad g.heap.size g
theorem Errs.disk {ad : Nat → Addr} {B : Nat} {w : World} (h : Errs allCodes ad B w) : Errs diskCodes ad B w :=
  ⟨fun c hc => h.pos c (disk_all hc), fun c hc => h.cell c (disk_all hc), fun c hc => h.block c (disk_all hc), fun c hc d hd => h.inj c (disk_all hc) d (disk_all hd), fun c hc => h.lt c (disk_all hc)⟩
theorem Dk.empty_ok {r : Nat} (h : r ≤ 4194304) : (Dk.empty r).ok := by
  refine ⟨⟨h, ⟨by simp [Dk.empty, keysOf], fun i hi => by simp [Dk.empty, keysOf] at hi⟩, fun i f hf => (by cases hf), by simp [Dk.empty, keysOf], by simp [Dk.empty, keysOf], fun x hx => (by simp [Dk.empty] at hx), fun x hx => (by simp [Dk.empty] at hx), fun x hx => (by simp [Dk.empty] at hx)⟩, Nat.le_refl _, Nat.le_refl _, Nat.le_refl _, by simp [Dk.empty]⟩
theorem rows_nil (w : World) : (rowK 3 (.slice none 0 0) []).ok (fun _ => False) w := rowK_nil 3 w
theorem newd_sl (hs : Mem g w L) {r : Nat} (h1 : 1 ≤ r) (h2 : r ≤ 4194304) : Calls Tryd.prog 26 #[.int .i64 r] w (Ret fun v w' => ∃ p, v = .tuple #[.pointer (some ⟨p, 0, none⟩), .nilIface] ∧ Mem g w' (DiskC p (Dk.empty r) :: L)) := by
  refine calls_cw Tryd.func26 rfl rfl ?_
  skip
  refine cw_seq ?_
  refine cw_region ?_
  first | refine lw_val rfl (run_assign (v := .pointer (some _)) rfl) ?_ | refine lw_val rfl (run_assign (v := .pointer none) rfl) ?_
  first | refine lw_val rfl (run_assign (v := errV ad _) rfl) ?_ | refine lw_val rfl (run_assign (v := .nilIface) rfl) ?_ | refine lw_val rfl (run_assign (v := eV ad _ _) rfl) ?_ | refine lw_val rfl (run_assign (v := .iface _ (.pointer (some _))) rfl) ?_
  refine lw_nil ?_
  refine cw_seq ?_
  refine cw_seq ?_
  refine cw_region ?_
  first | refine lw_val rfl (run_move (v := .int .i64 _) rfl) ?_
  refine lw_val rfl (run_lss rfl rfl) ?_
  first | refine lw_val rfl (run_move (v := .bool _) rfl) ?_
  refine lw_on rfl rfl (decide_eq_false (by omega)) ?_
  first | refine lw_val rfl (run_move (v := .int .i64 _) rfl) ?_
  refine lw_on rfl rfl (decide_eq_false (by omega)) ?_
  refine lw_val rfl (run_gtr rfl rfl) ?_
  first | refine lw_val rfl (run_pickF (v := .bool _) rfl (decide_eq_false (by omega)) rfl) ?_
  refine lw_nil ?_
  refine cw_iff rfl (decide_eq_false (by omega)) ?_
  refine cw_skip ?_
  refine cw_seq ?_
  refine cw_region ?_
  first | refine lw_val rfl (run_move (v := .int .i64 _) rfl) ?_
  refine lw_makeMap Value.string hs rfl ?_
  clear hs
  intro m12 w hs
  try simp only [List.set_cons_succ, List.set_cons_zero] at hs
  refine lw_makeMap Value.string hs rfl ?_
  clear hs
  intro m13 w hs
  try simp only [List.set_cons_succ, List.set_cons_zero] at hs
  refine lw_val rfl (run_build (cs := [.int .i64 r, .map (some m12), .map (some m13), .slice none 0 0, .int .i64 0, .int .i64 0, .bool false, .int .i64 0]) Tryd.underlying110 ze110 pl110 rfl) ?_
  refine lw_box (v := .agg _) hs rfl rfl ?_
  clear hs
  intro b15 w hs
  first | refine lw_val rfl (run_assign (v := .pointer (some _)) rfl) ?_ | refine lw_val rfl (run_assign (v := .pointer none) rfl) ?_
  first | refine lw_val rfl (run_assign (v := errV ad _) rfl) ?_ | refine lw_val rfl (run_assign (v := .nilIface) rfl) ?_ | refine lw_val rfl (run_assign (v := eV ad _ _) rfl) ?_ | refine lw_val rfl (run_assign (v := .iface _ (.pointer (some _))) rfl) ?_
  refine lw_nil ?_
  refine cw_ret ?_
  first | refine res2 (v := .pointer (some _)) (v2 := errV ad _) rfl rfl rfl ?_ | refine res2 (v := .pointer (some _)) (v2 := .nilIface) rfl rfl rfl ?_ | refine res2 (v := .pointer (some _)) (v2 := eV ad _ _) rfl rfl rfl ?_ | refine res2 (v := .pointer (some _)) (v2 := .iface _ (.pointer (some _))) rfl rfl rfl ?_ | refine res2 (v := .pointer none) (v2 := errV ad _) rfl rfl rfl ?_ | refine res2 (v := .pointer none) (v2 := .nilIface) rfl rfl rfl ?_ | refine res2 (v := .pointer none) (v2 := eV ad _ _) rfl rfl rfl ?_ | refine res2 (v := .pointer none) (v2 := .iface _ (.pointer (some _))) rfl rfl rfl ?_
  refine ⟨_, rfl, b15, rfl, Mem.closeD (mn := m12) (mk := m13) (sa := none) (sc := 0) (ptr := []) (Dk.empty_ok h2) ?_⟩
  exact ((hs.addE (rows_nil _)).addE (famC_nil (R := flC) _)).arr [2, 4, 3, 1, 0] 5 (by decide)

theorem begin_sl (hE : ErrK ad g) (ho : d.ok) (hs : Mem g w (diskParts p d mn mk sa sc ptr ++ L)) : Calls Tryd.prog 77 #[.pointer (some ⟨p, 0, none⟩)] w (Ret fun v w' => v = errV ad d.begin.1 ∧ Mem g w' (diskParts p d.begin.2 mn mk sa sc ptr ++ L)) := by
  have hal := ho.al
  refine calls_cw Tryd.func77 rfl rfl ?_
  skip
  refine cw_seq ?_
  refine cw_region ?_
  first | refine lw_val rfl (run_assign (v := errV ad _) rfl) ?_ | refine lw_val rfl (run_assign (v := .nilIface) rfl) ?_ | refine lw_val rfl (run_assign (v := eV ad _ _) rfl) ?_ | refine lw_val rfl (run_assign (v := .iface _ (.pointer (some _))) rfl) ?_
  refine lw_nil ?_
  refine cw_seq ?_
  refine cw_seq ?_
  refine cw_region ?_
  first | refine lw_val rfl (run_move (v := .pointer (some _)) rfl) ?_ | refine lw_val rfl (run_move (v := .pointer none) rfl) ?_
  refine lw_val rfl (run_nilCheckP rfl) ?_
  first | refine lw_val rfl (run_fieldAddr (o' := 6) Tryd.underlying110 rfl sz4 rfl rfl rfl) ?_ | refine lw_val rfl (run_fieldAddr Tryd.underlying110 rfl sz4 rfl rfl rfl) ?_
  first | refine lw_val rfl (run_load Tryd.underlying4 rfl rfl (hs.cellAt 0 rfl rfl)) ?_ | refine lw_val rfl (run_load Tryd.underlying4 rfl rfl (hs.cellAt 1 rfl rfl)) ?_ | refine lw_val rfl (run_load Tryd.underlying4 rfl rfl (hs.cellAt 2 rfl rfl)) ?_ | refine lw_val rfl (run_load Tryd.underlying4 rfl rfl (hs.cellAt 3 rfl rfl)) ?_ | refine lw_val rfl (run_load Tryd.underlying4 rfl rfl (hs.cellAt 4 rfl rfl)) ?_ | refine lw_val rfl (run_load Tryd.underlying4 rfl rfl (hs.cellAt 5 rfl rfl)) ?_ | refine lw_val rfl (run_load Tryd.underlying4 rfl rfl (hs.cellAt 6 rfl rfl)) ?_ | refine lw_val rfl (run_load Tryd.underlying4 rfl rfl (hs.cellAt 7 rfl rfl)) ?_ | refine lw_val rfl (run_load Tryd.underlying4 rfl rfl (hs.cellAt 8 rfl rfl)) ?_ | refine lw_val rfl (run_load Tryd.underlying4 rfl rfl (hs.cellAt 9 rfl rfl)) ?_ | refine lw_val rfl (run_load Tryd.underlying4 rfl rfl (hs.cellAt 10 rfl rfl)) ?_ | refine lw_val rfl (run_load Tryd.underlying4 rfl rfl (hs.cellAt 11 rfl rfl)) ?_ | refine lw_val rfl (run_load Tryd.underlying4 rfl rfl (hs.cellAt 12 rfl rfl)) ?_ | refine lw_val rfl (run_load Tryd.underlying4 rfl rfl (hs.cellAt 13 rfl rfl)) ?_
  refine lw_nil ?_
  refine cw_if rfl ?_ ?_
  · intro h6
    refine cw_seq ?_
    refine cw_region ?_
    refine lw_val rfl (run_load Tryd.underlying30 rfl rfl (hE.cellW hs 110 (by decide) rfl)) ?_
    first | refine lw_val rfl (run_assign (v := errV ad _) rfl) ?_ | refine lw_val rfl (run_assign (v := .nilIface) rfl) ?_ | refine lw_val rfl (run_assign (v := eV ad _ _) rfl) ?_ | refine lw_val rfl (run_assign (v := .iface _ (.pointer (some _))) rfl) ?_
    refine lw_nil ?_
    refine cw_ret ?_
    first | refine res1 (v := errV ad _) rfl rfl ?_ | refine res1 (v := .nilIface) rfl rfl ?_ | refine res1 (v := eV ad _ _) rfl rfl ?_ | refine res1 (v := .iface _ (.pointer (some _))) rfl rfl ?_
    have e : d.begin = (110, d) := by simp [Dk.begin, h6]
    rw [e]
    exact ⟨_, rfl, rfl, hs⟩
  · intro h6
    refine cw_skip ?_
    refine cw_seq ?_
    refine cw_seq ?_
    refine cw_region ?_
    first | refine lw_val rfl (run_move (v := .pointer (some _)) rfl) ?_ | refine lw_val rfl (run_move (v := .pointer none) rfl) ?_
    refine lw_val rfl (run_nilCheckP rfl) ?_
    first | refine lw_val rfl (run_fieldAddr (o' := 5) Tryd.underlying110 rfl sz3 rfl rfl rfl) ?_ | refine lw_val rfl (run_fieldAddr Tryd.underlying110 rfl sz3 rfl rfl rfl) ?_
    first | refine lw_val rfl (run_load Tryd.underlying3 rfl rfl (hs.cellAt 0 rfl rfl)) ?_ | refine lw_val rfl (run_load Tryd.underlying3 rfl rfl (hs.cellAt 1 rfl rfl)) ?_ | refine lw_val rfl (run_load Tryd.underlying3 rfl rfl (hs.cellAt 2 rfl rfl)) ?_ | refine lw_val rfl (run_load Tryd.underlying3 rfl rfl (hs.cellAt 3 rfl rfl)) ?_ | refine lw_val rfl (run_load Tryd.underlying3 rfl rfl (hs.cellAt 4 rfl rfl)) ?_ | refine lw_val rfl (run_load Tryd.underlying3 rfl rfl (hs.cellAt 5 rfl rfl)) ?_ | refine lw_val rfl (run_load Tryd.underlying3 rfl rfl (hs.cellAt 6 rfl rfl)) ?_ | refine lw_val rfl (run_load Tryd.underlying3 rfl rfl (hs.cellAt 7 rfl rfl)) ?_ | refine lw_val rfl (run_load Tryd.underlying3 rfl rfl (hs.cellAt 8 rfl rfl)) ?_ | refine lw_val rfl (run_load Tryd.underlying3 rfl rfl (hs.cellAt 9 rfl rfl)) ?_ | refine lw_val rfl (run_load Tryd.underlying3 rfl rfl (hs.cellAt 10 rfl rfl)) ?_ | refine lw_val rfl (run_load Tryd.underlying3 rfl rfl (hs.cellAt 11 rfl rfl)) ?_ | refine lw_val rfl (run_load Tryd.underlying3 rfl rfl (hs.cellAt 12 rfl rfl)) ?_ | refine lw_val rfl (run_load Tryd.underlying3 rfl rfl (hs.cellAt 13 rfl rfl)) ?_
    refine lw_val rfl (run_gtr rfl rfl) ?_
    refine lw_nil ?_
    refine cw_if rfl ?_ ?_
    · intro h12
      have g12 := of_decide_eq_true h12
      refine cw_seq ?_
      refine cw_region ?_
      first | refine lw_val rfl (run_move (v := .pointer (some _)) rfl) ?_ | refine lw_val rfl (run_move (v := .pointer none) rfl) ?_
      refine lw_val rfl (run_nilCheckP rfl) ?_
      first | refine lw_val rfl (run_fieldAddr (o' := 5) Tryd.underlying110 rfl sz3 rfl rfl rfl) ?_ | refine lw_val rfl (run_fieldAddr Tryd.underlying110 rfl sz3 rfl rfl rfl) ?_
      first | refine lw_val rfl (run_load Tryd.underlying3 rfl rfl (hs.cellAt 0 rfl rfl)) ?_ | refine lw_val rfl (run_load Tryd.underlying3 rfl rfl (hs.cellAt 1 rfl rfl)) ?_ | refine lw_val rfl (run_load Tryd.underlying3 rfl rfl (hs.cellAt 2 rfl rfl)) ?_ | refine lw_val rfl (run_load Tryd.underlying3 rfl rfl (hs.cellAt 3 rfl rfl)) ?_ | refine lw_val rfl (run_load Tryd.underlying3 rfl rfl (hs.cellAt 4 rfl rfl)) ?_ | refine lw_val rfl (run_load Tryd.underlying3 rfl rfl (hs.cellAt 5 rfl rfl)) ?_ | refine lw_val rfl (run_load Tryd.underlying3 rfl rfl (hs.cellAt 6 rfl rfl)) ?_ | refine lw_val rfl (run_load Tryd.underlying3 rfl rfl (hs.cellAt 7 rfl rfl)) ?_ | refine lw_val rfl (run_load Tryd.underlying3 rfl rfl (hs.cellAt 8 rfl rfl)) ?_ | refine lw_val rfl (run_load Tryd.underlying3 rfl rfl (hs.cellAt 9 rfl rfl)) ?_ | refine lw_val rfl (run_load Tryd.underlying3 rfl rfl (hs.cellAt 10 rfl rfl)) ?_ | refine lw_val rfl (run_load Tryd.underlying3 rfl rfl (hs.cellAt 11 rfl rfl)) ?_ | refine lw_val rfl (run_load Tryd.underlying3 rfl rfl (hs.cellAt 12 rfl rfl)) ?_ | refine lw_val rfl (run_load Tryd.underlying3 rfl rfl (hs.cellAt 13 rfl rfl)) ?_
      refine lw_val rfl (run_sub64 rfl rfl (c := ((d.armed - 1 : Nat) : Int)) (by omega) (inI (by omega) (by omega))) ?_
      refine lw_val rfl (run_nilCheckP rfl) ?_
      first | refine lw_val rfl (run_fieldAddr (o' := 5) Tryd.underlying110 rfl sz3 rfl rfl rfl) ?_ | refine lw_val rfl (run_fieldAddr Tryd.underlying110 rfl sz3 rfl rfl rfl) ?_
      first | refine lw_store (v := .int .i64 _) hs 0 rfl sz3 rfl rfl rfl rfl ?_ | refine lw_store (v := .int .i64 _) hs 1 rfl sz3 rfl rfl rfl rfl ?_ | refine lw_store (v := .int .i64 _) hs 2 rfl sz3 rfl rfl rfl rfl ?_ | refine lw_store (v := .int .i64 _) hs 3 rfl sz3 rfl rfl rfl rfl ?_ | refine lw_store (v := .int .i64 _) hs 4 rfl sz3 rfl rfl rfl rfl ?_ | refine lw_store (v := .int .i64 _) hs 5 rfl sz3 rfl rfl rfl rfl ?_ | refine lw_store (v := .int .i64 _) hs 6 rfl sz3 rfl rfl rfl rfl ?_ | refine lw_store (v := .int .i64 _) hs 7 rfl sz3 rfl rfl rfl rfl ?_ | refine lw_store (v := .int .i64 _) hs 8 rfl sz3 rfl rfl rfl rfl ?_ | refine lw_store (v := .int .i64 _) hs 9 rfl sz3 rfl rfl rfl rfl ?_ | refine lw_store (v := .int .i64 _) hs 10 rfl sz3 rfl rfl rfl rfl ?_ | refine lw_store (v := .int .i64 _) hs 11 rfl sz3 rfl rfl rfl rfl ?_ | refine lw_store (v := .int .i64 _) hs 12 rfl sz3 rfl rfl rfl rfl ?_ | refine lw_store (v := .int .i64 _) hs 13 rfl sz3 rfl rfl rfl rfl ?_
      clear hs
      intro w hs
      try simp only [List.set_cons_succ, List.set_cons_zero] at hs
      refine lw_nil ?_
      refine cw_seq ?_
      refine cw_region ?_
      first | refine lw_val rfl (run_move (v := .pointer (some _)) rfl) ?_ | refine lw_val rfl (run_move (v := .pointer none) rfl) ?_
      refine lw_val rfl (run_nilCheckP rfl) ?_
      first | refine lw_val rfl (run_fieldAddr (o' := 5) Tryd.underlying110 rfl sz3 rfl rfl rfl) ?_ | refine lw_val rfl (run_fieldAddr Tryd.underlying110 rfl sz3 rfl rfl rfl) ?_
      first | refine lw_val rfl (run_load Tryd.underlying3 rfl rfl (hs.cellAt 0 rfl rfl)) ?_ | refine lw_val rfl (run_load Tryd.underlying3 rfl rfl (hs.cellAt 1 rfl rfl)) ?_ | refine lw_val rfl (run_load Tryd.underlying3 rfl rfl (hs.cellAt 2 rfl rfl)) ?_ | refine lw_val rfl (run_load Tryd.underlying3 rfl rfl (hs.cellAt 3 rfl rfl)) ?_ | refine lw_val rfl (run_load Tryd.underlying3 rfl rfl (hs.cellAt 4 rfl rfl)) ?_ | refine lw_val rfl (run_load Tryd.underlying3 rfl rfl (hs.cellAt 5 rfl rfl)) ?_ | refine lw_val rfl (run_load Tryd.underlying3 rfl rfl (hs.cellAt 6 rfl rfl)) ?_ | refine lw_val rfl (run_load Tryd.underlying3 rfl rfl (hs.cellAt 7 rfl rfl)) ?_ | refine lw_val rfl (run_load Tryd.underlying3 rfl rfl (hs.cellAt 8 rfl rfl)) ?_ | refine lw_val rfl (run_load Tryd.underlying3 rfl rfl (hs.cellAt 9 rfl rfl)) ?_ | refine lw_val rfl (run_load Tryd.underlying3 rfl rfl (hs.cellAt 10 rfl rfl)) ?_ | refine lw_val rfl (run_load Tryd.underlying3 rfl rfl (hs.cellAt 11 rfl rfl)) ?_ | refine lw_val rfl (run_load Tryd.underlying3 rfl rfl (hs.cellAt 12 rfl rfl)) ?_ | refine lw_val rfl (run_load Tryd.underlying3 rfl rfl (hs.cellAt 13 rfl rfl)) ?_
      refine lw_val rfl (run_eqi rfl rfl) ?_
      refine lw_nil ?_
      refine cw_if rfl ?_ ?_
      · intro h24
        have g24 := of_decide_eq_true h24
        refine cw_seq ?_
        refine cw_region ?_
        first | refine lw_val rfl (run_move (v := .pointer (some _)) rfl) ?_ | refine lw_val rfl (run_move (v := .pointer none) rfl) ?_
        refine lw_val rfl (run_nilCheckP rfl) ?_
        first | refine lw_val rfl (run_fieldAddr (o' := 6) Tryd.underlying110 rfl sz4 rfl rfl rfl) ?_ | refine lw_val rfl (run_fieldAddr Tryd.underlying110 rfl sz4 rfl rfl rfl) ?_
        first | refine lw_store (v := .bool _) hs 0 rfl sz4 rfl rfl rfl rfl ?_ | refine lw_store (v := .bool _) hs 1 rfl sz4 rfl rfl rfl rfl ?_ | refine lw_store (v := .bool _) hs 2 rfl sz4 rfl rfl rfl rfl ?_ | refine lw_store (v := .bool _) hs 3 rfl sz4 rfl rfl rfl rfl ?_ | refine lw_store (v := .bool _) hs 4 rfl sz4 rfl rfl rfl rfl ?_ | refine lw_store (v := .bool _) hs 5 rfl sz4 rfl rfl rfl rfl ?_ | refine lw_store (v := .bool _) hs 6 rfl sz4 rfl rfl rfl rfl ?_ | refine lw_store (v := .bool _) hs 7 rfl sz4 rfl rfl rfl rfl ?_ | refine lw_store (v := .bool _) hs 8 rfl sz4 rfl rfl rfl rfl ?_ | refine lw_store (v := .bool _) hs 9 rfl sz4 rfl rfl rfl rfl ?_ | refine lw_store (v := .bool _) hs 10 rfl sz4 rfl rfl rfl rfl ?_ | refine lw_store (v := .bool _) hs 11 rfl sz4 rfl rfl rfl rfl ?_ | refine lw_store (v := .bool _) hs 12 rfl sz4 rfl rfl rfl rfl ?_ | refine lw_store (v := .bool _) hs 13 rfl sz4 rfl rfl rfl rfl ?_
        clear hs
        intro w hs
        try simp only [List.set_cons_succ, List.set_cons_zero] at hs
        refine lw_nil ?_
        refine cw_seq ?_
        refine cw_region ?_
        refine lw_val rfl (run_load Tryd.underlying30 rfl rfl (hE.cellW hs 110 (by decide) rfl)) ?_
        first | refine lw_val rfl (run_assign (v := errV ad _) rfl) ?_ | refine lw_val rfl (run_assign (v := .nilIface) rfl) ?_ | refine lw_val rfl (run_assign (v := eV ad _ _) rfl) ?_ | refine lw_val rfl (run_assign (v := .iface _ (.pointer (some _))) rfl) ?_
        refine lw_nil ?_
        refine cw_ret ?_
        first | refine res1 (v := errV ad _) rfl rfl ?_ | refine res1 (v := .nilIface) rfl rfl ?_ | refine res1 (v := eV ad _ _) rfl rfl ?_ | refine res1 (v := .iface _ (.pointer (some _))) rfl rfl ?_
        have e : d.begin = (110, { d with armed := 0, down := true }) := by simp [Dk.begin, h6, show ¬ d.armed = 0 by omega, show d.armed = 1 by omega]
        rw [show d.armed - 1 = 0 by omega] at hs
        rw [e]
        exact ⟨_, rfl, rfl, hs⟩
      · intro h24
        have g24 := of_decide_eq_false h24
        refine cw_skip ?_
        refine cw_seq ?_
        refine cw_region ?_
        first | refine lw_val rfl (run_assign (v := errV ad _) rfl) ?_ | refine lw_val rfl (run_assign (v := .nilIface) rfl) ?_ | refine lw_val rfl (run_assign (v := eV ad _ _) rfl) ?_ | refine lw_val rfl (run_assign (v := .iface _ (.pointer (some _))) rfl) ?_
        refine lw_nil ?_
        refine cw_ret ?_
        first | refine res1 (v := errV ad _) rfl rfl ?_ | refine res1 (v := .nilIface) rfl rfl ?_ | refine res1 (v := eV ad _ _) rfl rfl ?_ | refine res1 (v := .iface _ (.pointer (some _))) rfl rfl ?_
        have e : d.begin = (0, { d with armed := d.armed - 1 }) := by simp [Dk.begin, h6, show ¬ d.armed = 0 by omega, show ¬ d.armed = 1 by omega]
        rw [e]
        exact ⟨_, rfl, (errV_zero ad).symm, hs⟩
    · intro h12
      have g12 := of_decide_eq_false h12
      refine cw_skip ?_
      refine cw_seq ?_
      refine cw_region ?_
      first | refine lw_val rfl (run_assign (v := errV ad _) rfl) ?_ | refine lw_val rfl (run_assign (v := .nilIface) rfl) ?_ | refine lw_val rfl (run_assign (v := eV ad _ _) rfl) ?_ | refine lw_val rfl (run_assign (v := .iface _ (.pointer (some _))) rfl) ?_
      refine lw_nil ?_
      refine cw_ret ?_
      first | refine res1 (v := errV ad _) rfl rfl ?_ | refine res1 (v := .nilIface) rfl rfl ?_ | refine res1 (v := eV ad _ _) rfl rfl ?_ | refine res1 (v := .iface _ (.pointer (some _))) rfl rfl ?_
      have e : d.begin = (0, d) := by simp [Dk.begin, h6, show d.armed = 0 by omega]
      rw [e]
      exact ⟨_, rfl, (errV_zero ad).symm, hs⟩

/-- What file and find tell. -/
def FileRet (g : World) (ad : Nat → Addr) (L : List HP) (p mn mk : Nat) (sa : Option Addr) (sc : Nat) (ptr : List (Nat × Nat)) (d : Dk) (r : Nat × Option Nat) (v : Value) (w' : World) : Prop :=
  (∃ c, c ∈ diskCodes ∧ c ≠ 0 ∧ r = (c, none) ∧ v = .tuple #[.pointer none, errV ad c] ∧ Mem g w' (diskParts p d mn mk sa sc ptr ++ L)) ∨
  (∃ i b, r = (0, some i) ∧ i ∈ keysOf d.fs ∧ aget ptr i = some b ∧ aget d.fs i = some (d.fl i) ∧ v = .tuple #[.pointer (some ⟨b, 0, none⟩), .nilIface] ∧ Mem g w' (diskParts p d mn mk sa sc ptr ++ L))
theorem file_sl (hE : ErrK ad g) (ho : d.ok) (n : ByteArray) (hs : Mem g w (diskParts p d mn mk sa sc ptr ++ L)) : Calls Tryd.prog 83 #[.pointer (some ⟨p, 0, none⟩), .string n] w (Ret (FileRet g ad L p mn mk sa sc ptr d (d.file n))) := by
  cases hd : d.down with
  | true =>
    refine calls_cw Tryd.func83 rfl rfl ?_
    skip
    refine cw_seq ?_
    refine cw_region ?_
    first | refine lw_val rfl (run_assign (v := .pointer (some _)) rfl) ?_ | refine lw_val rfl (run_assign (v := .pointer none) rfl) ?_
    first | refine lw_val rfl (run_assign (v := errV ad _) rfl) ?_ | refine lw_val rfl (run_assign (v := .nilIface) rfl) ?_ | refine lw_val rfl (run_assign (v := eV ad _ _) rfl) ?_ | refine lw_val rfl (run_assign (v := .iface _ (.pointer (some _))) rfl) ?_
    refine lw_nil ?_
    refine cw_seq ?_
    refine cw_seq ?_
    refine cw_region ?_
    first | refine lw_val rfl (run_move (v := .pointer (some _)) rfl) ?_ | refine lw_val rfl (run_move (v := .pointer none) rfl) ?_
    refine lw_val rfl (run_nilCheckP rfl) ?_
    first | refine lw_val rfl (run_fieldAddr (o' := 6) Tryd.underlying110 rfl sz4 rfl rfl rfl) ?_ | refine lw_val rfl (run_fieldAddr Tryd.underlying110 rfl sz4 rfl rfl rfl) ?_
    first | refine lw_val rfl (run_load Tryd.underlying4 rfl rfl (hs.cellAt 0 rfl rfl)) ?_ | refine lw_val rfl (run_load Tryd.underlying4 rfl rfl (hs.cellAt 1 rfl rfl)) ?_ | refine lw_val rfl (run_load Tryd.underlying4 rfl rfl (hs.cellAt 2 rfl rfl)) ?_ | refine lw_val rfl (run_load Tryd.underlying4 rfl rfl (hs.cellAt 3 rfl rfl)) ?_ | refine lw_val rfl (run_load Tryd.underlying4 rfl rfl (hs.cellAt 4 rfl rfl)) ?_ | refine lw_val rfl (run_load Tryd.underlying4 rfl rfl (hs.cellAt 5 rfl rfl)) ?_ | refine lw_val rfl (run_load Tryd.underlying4 rfl rfl (hs.cellAt 6 rfl rfl)) ?_ | refine lw_val rfl (run_load Tryd.underlying4 rfl rfl (hs.cellAt 7 rfl rfl)) ?_ | refine lw_val rfl (run_load Tryd.underlying4 rfl rfl (hs.cellAt 8 rfl rfl)) ?_ | refine lw_val rfl (run_load Tryd.underlying4 rfl rfl (hs.cellAt 9 rfl rfl)) ?_ | refine lw_val rfl (run_load Tryd.underlying4 rfl rfl (hs.cellAt 10 rfl rfl)) ?_ | refine lw_val rfl (run_load Tryd.underlying4 rfl rfl (hs.cellAt 11 rfl rfl)) ?_ | refine lw_val rfl (run_load Tryd.underlying4 rfl rfl (hs.cellAt 12 rfl rfl)) ?_ | refine lw_val rfl (run_load Tryd.underlying4 rfl rfl (hs.cellAt 13 rfl rfl)) ?_
    refine lw_nil ?_
    refine cw_ift rfl (hd) ?_
    refine cw_seq ?_
    refine cw_drawS mixes hs ?_
    intro w tr hK
    replace hs := tr _ hs
    clear tr
    refine aw_take 0 rfl (by kernel_rfl) (by kernel_rfl) (by kernel_rfl) rfl (fun w hs => run_load Tryd.underlying30 rfl rfl (hE.cellW hs 110 (by decide) rfl)) hK ?_
    first | refine aw_take 1 rfl (by kernel_rfl) (by kernel_rfl) (by kernel_rfl) rfl (fun w hs => run_assign (v := .pointer (some _)) rfl) hK ?_ | refine aw_take 1 rfl (by kernel_rfl) (by kernel_rfl) (by kernel_rfl) rfl (fun w hs => run_assign (v := .pointer none) rfl) hK ?_
    first | refine aw_take 2 rfl (by kernel_rfl) (by kernel_rfl) (by kernel_rfl) rfl (fun w hs => run_assign (v := errV ad _) rfl) hK ?_ | refine aw_take 2 rfl (by kernel_rfl) (by kernel_rfl) (by kernel_rfl) rfl (fun w hs => run_assign (v := .nilIface) rfl) hK ?_ | refine aw_take 2 rfl (by kernel_rfl) (by kernel_rfl) (by kernel_rfl) rfl (fun w hs => run_assign (v := eV ad _ _) rfl) hK ?_ | refine aw_take 2 rfl (by kernel_rfl) (by kernel_rfl) (by kernel_rfl) rfl (fun w hs => run_assign (v := .iface _ (.pointer (some _))) rfl) hK ?_
    refine aw_done (by kernel_rfl) ?_
    clear hK
    refine cw_ret ?_
    first | refine res2 (v := .pointer (some _)) (v2 := errV ad _) rfl rfl rfl ?_ | refine res2 (v := .pointer (some _)) (v2 := .nilIface) rfl rfl rfl ?_ | refine res2 (v := .pointer (some _)) (v2 := eV ad _ _) rfl rfl rfl ?_ | refine res2 (v := .pointer (some _)) (v2 := .iface _ (.pointer (some _))) rfl rfl rfl ?_ | refine res2 (v := .pointer none) (v2 := errV ad _) rfl rfl rfl ?_ | refine res2 (v := .pointer none) (v2 := .nilIface) rfl rfl rfl ?_ | refine res2 (v := .pointer none) (v2 := eV ad _ _) rfl rfl rfl ?_ | refine res2 (v := .pointer none) (v2 := .iface _ (.pointer (some _))) rfl rfl rfl ?_
    exact ⟨_, rfl, .inl ⟨110, by decide, by decide, by simp [Dk.file, hd], rfl, hs⟩⟩
  | false =>
    cases hn : aget d.names n with
    | none =>
      refine calls_cw Tryd.func83 rfl rfl ?_
      skip
      refine cw_seq ?_
      refine cw_region ?_
      first | refine lw_val rfl (run_assign (v := .pointer (some _)) rfl) ?_ | refine lw_val rfl (run_assign (v := .pointer none) rfl) ?_
      first | refine lw_val rfl (run_assign (v := errV ad _) rfl) ?_ | refine lw_val rfl (run_assign (v := .nilIface) rfl) ?_ | refine lw_val rfl (run_assign (v := eV ad _ _) rfl) ?_ | refine lw_val rfl (run_assign (v := .iface _ (.pointer (some _))) rfl) ?_
      refine lw_nil ?_
      refine cw_seq ?_
      refine cw_seq ?_
      refine cw_region ?_
      first | refine lw_val rfl (run_move (v := .pointer (some _)) rfl) ?_ | refine lw_val rfl (run_move (v := .pointer none) rfl) ?_
      refine lw_val rfl (run_nilCheckP rfl) ?_
      first | refine lw_val rfl (run_fieldAddr (o' := 6) Tryd.underlying110 rfl sz4 rfl rfl rfl) ?_ | refine lw_val rfl (run_fieldAddr Tryd.underlying110 rfl sz4 rfl rfl rfl) ?_
      first | refine lw_val rfl (run_load Tryd.underlying4 rfl rfl (hs.cellAt 0 rfl rfl)) ?_ | refine lw_val rfl (run_load Tryd.underlying4 rfl rfl (hs.cellAt 1 rfl rfl)) ?_ | refine lw_val rfl (run_load Tryd.underlying4 rfl rfl (hs.cellAt 2 rfl rfl)) ?_ | refine lw_val rfl (run_load Tryd.underlying4 rfl rfl (hs.cellAt 3 rfl rfl)) ?_ | refine lw_val rfl (run_load Tryd.underlying4 rfl rfl (hs.cellAt 4 rfl rfl)) ?_ | refine lw_val rfl (run_load Tryd.underlying4 rfl rfl (hs.cellAt 5 rfl rfl)) ?_ | refine lw_val rfl (run_load Tryd.underlying4 rfl rfl (hs.cellAt 6 rfl rfl)) ?_ | refine lw_val rfl (run_load Tryd.underlying4 rfl rfl (hs.cellAt 7 rfl rfl)) ?_ | refine lw_val rfl (run_load Tryd.underlying4 rfl rfl (hs.cellAt 8 rfl rfl)) ?_ | refine lw_val rfl (run_load Tryd.underlying4 rfl rfl (hs.cellAt 9 rfl rfl)) ?_ | refine lw_val rfl (run_load Tryd.underlying4 rfl rfl (hs.cellAt 10 rfl rfl)) ?_ | refine lw_val rfl (run_load Tryd.underlying4 rfl rfl (hs.cellAt 11 rfl rfl)) ?_ | refine lw_val rfl (run_load Tryd.underlying4 rfl rfl (hs.cellAt 12 rfl rfl)) ?_ | refine lw_val rfl (run_load Tryd.underlying4 rfl rfl (hs.cellAt 13 rfl rfl)) ?_
      refine lw_nil ?_
      refine cw_iff rfl (hd) ?_
      refine cw_skip ?_
      refine cw_seq ?_
      refine cw_region ?_
      first | refine lw_val rfl (run_move (v := .pointer (some _)) rfl) ?_ | refine lw_val rfl (run_move (v := .pointer none) rfl) ?_
      refine lw_val rfl (run_nilCheckP rfl) ?_
      first | refine lw_val rfl (run_fieldAddr (o' := 1) Tryd.underlying110 rfl sz107 rfl rfl rfl) ?_ | refine lw_val rfl (run_fieldAddr Tryd.underlying110 rfl sz107 rfl rfl rfl) ?_
      first | refine lw_val rfl (run_load Tryd.underlying107 rfl rfl (hs.cellAt 0 rfl rfl)) ?_ | refine lw_val rfl (run_load Tryd.underlying107 rfl rfl (hs.cellAt 1 rfl rfl)) ?_ | refine lw_val rfl (run_load Tryd.underlying107 rfl rfl (hs.cellAt 2 rfl rfl)) ?_ | refine lw_val rfl (run_load Tryd.underlying107 rfl rfl (hs.cellAt 3 rfl rfl)) ?_ | refine lw_val rfl (run_load Tryd.underlying107 rfl rfl (hs.cellAt 4 rfl rfl)) ?_ | refine lw_val rfl (run_load Tryd.underlying107 rfl rfl (hs.cellAt 5 rfl rfl)) ?_ | refine lw_val rfl (run_load Tryd.underlying107 rfl rfl (hs.cellAt 6 rfl rfl)) ?_ | refine lw_val rfl (run_load Tryd.underlying107 rfl rfl (hs.cellAt 7 rfl rfl)) ?_ | refine lw_val rfl (run_load Tryd.underlying107 rfl rfl (hs.cellAt 8 rfl rfl)) ?_ | refine lw_val rfl (run_load Tryd.underlying107 rfl rfl (hs.cellAt 9 rfl rfl)) ?_ | refine lw_val rfl (run_load Tryd.underlying107 rfl rfl (hs.cellAt 10 rfl rfl)) ?_ | refine lw_val rfl (run_load Tryd.underlying107 rfl rfl (hs.cellAt 11 rfl rfl)) ?_ | refine lw_val rfl (run_load Tryd.underlying107 rfl rfl (hs.cellAt 12 rfl rfl)) ?_ | refine lw_val rfl (run_load Tryd.underlying107 rfl rfl (hs.cellAt 13 rfl rfl)) ?_
      first | refine lw_val rfl (run_move (v := .string _) rfl) ?_
      first | refine lw_val rfl (run_lookup (hs.mapAt 0 rfl) strKind Tryd.underlying107 Tryd.underlying9 ze112 rfl rfl (o := none) (by rw [nmV_get, hn]; rfl)) ?_ | refine lw_val rfl (run_lookup (hs.mapAt 1 rfl) strKind Tryd.underlying107 Tryd.underlying9 ze112 rfl rfl (o := none) (by rw [nmV_get, hn]; rfl)) ?_ | refine lw_val rfl (run_lookup (hs.mapAt 2 rfl) strKind Tryd.underlying107 Tryd.underlying9 ze112 rfl rfl (o := none) (by rw [nmV_get, hn]; rfl)) ?_ | refine lw_val rfl (run_lookup (hs.mapAt 3 rfl) strKind Tryd.underlying107 Tryd.underlying9 ze112 rfl rfl (o := none) (by rw [nmV_get, hn]; rfl)) ?_ | refine lw_val rfl (run_lookup (hs.mapAt 4 rfl) strKind Tryd.underlying107 Tryd.underlying9 ze112 rfl rfl (o := none) (by rw [nmV_get, hn]; rfl)) ?_ | refine lw_val rfl (run_lookup (hs.mapAt 5 rfl) strKind Tryd.underlying107 Tryd.underlying9 ze112 rfl rfl (o := none) (by rw [nmV_get, hn]; rfl)) ?_ | refine lw_val rfl (run_lookup (hs.mapAt 6 rfl) strKind Tryd.underlying107 Tryd.underlying9 ze112 rfl rfl (o := none) (by rw [nmV_get, hn]; rfl)) ?_ | refine lw_val rfl (run_lookup (hs.mapAt 7 rfl) strKind Tryd.underlying107 Tryd.underlying9 ze112 rfl rfl (o := none) (by rw [nmV_get, hn]; rfl)) ?_ | refine lw_val rfl (run_lookup (hs.mapAt 8 rfl) strKind Tryd.underlying107 Tryd.underlying9 ze112 rfl rfl (o := none) (by rw [nmV_get, hn]; rfl)) ?_ | refine lw_val rfl (run_lookup (hs.mapAt 9 rfl) strKind Tryd.underlying107 Tryd.underlying9 ze112 rfl rfl (o := none) (by rw [nmV_get, hn]; rfl)) ?_ | refine lw_val rfl (run_lookup (hs.mapAt 10 rfl) strKind Tryd.underlying107 Tryd.underlying9 ze112 rfl rfl (o := none) (by rw [nmV_get, hn]; rfl)) ?_ | refine lw_val rfl (run_lookup (hs.mapAt 11 rfl) strKind Tryd.underlying107 Tryd.underlying9 ze112 rfl rfl (o := none) (by rw [nmV_get, hn]; rfl)) ?_ | refine lw_val rfl (run_lookup (hs.mapAt 12 rfl) strKind Tryd.underlying107 Tryd.underlying9 ze112 rfl rfl (o := none) (by rw [nmV_get, hn]; rfl)) ?_ | refine lw_val rfl (run_lookup (hs.mapAt 13 rfl) strKind Tryd.underlying107 Tryd.underlying9 ze112 rfl rfl (o := none) (by rw [nmV_get, hn]; rfl)) ?_
      first | refine lw_val rfl (run_assign (v := .pointer (some _)) rfl) ?_ | refine lw_val rfl (run_assign (v := .pointer none) rfl) ?_
      refine lw_nil ?_
      refine cw_seq ?_
      refine cw_seq ?_
      refine cw_region ?_
      first | refine lw_val rfl (run_move (v := .pointer (some _)) rfl) ?_ | refine lw_val rfl (run_move (v := .pointer none) rfl) ?_
      refine lw_val rfl (run_eqpn Tryd.underlying112 rfl rfl) ?_
      refine lw_nil ?_
      refine cw_ift rfl (rfl) ?_
      refine cw_seq ?_
      refine cw_drawS mixes hs ?_
      intro w tr hK
      replace hs := tr _ hs
      clear tr
      refine aw_take 0 rfl (by kernel_rfl) (by kernel_rfl) (by kernel_rfl) rfl (fun w hs => run_load Tryd.underlying30 rfl rfl (hE.cellW hs 107 (by decide) rfl)) hK ?_
      first | refine aw_take 1 rfl (by kernel_rfl) (by kernel_rfl) (by kernel_rfl) rfl (fun w hs => run_assign (v := .pointer (some _)) rfl) hK ?_ | refine aw_take 1 rfl (by kernel_rfl) (by kernel_rfl) (by kernel_rfl) rfl (fun w hs => run_assign (v := .pointer none) rfl) hK ?_
      first | refine aw_take 2 rfl (by kernel_rfl) (by kernel_rfl) (by kernel_rfl) rfl (fun w hs => run_assign (v := errV ad _) rfl) hK ?_ | refine aw_take 2 rfl (by kernel_rfl) (by kernel_rfl) (by kernel_rfl) rfl (fun w hs => run_assign (v := .nilIface) rfl) hK ?_ | refine aw_take 2 rfl (by kernel_rfl) (by kernel_rfl) (by kernel_rfl) rfl (fun w hs => run_assign (v := eV ad _ _) rfl) hK ?_ | refine aw_take 2 rfl (by kernel_rfl) (by kernel_rfl) (by kernel_rfl) rfl (fun w hs => run_assign (v := .iface _ (.pointer (some _))) rfl) hK ?_
      refine aw_done (by kernel_rfl) ?_
      clear hK
      refine cw_ret ?_
      first | refine res2 (v := .pointer (some _)) (v2 := errV ad _) rfl rfl rfl ?_ | refine res2 (v := .pointer (some _)) (v2 := .nilIface) rfl rfl rfl ?_ | refine res2 (v := .pointer (some _)) (v2 := eV ad _ _) rfl rfl rfl ?_ | refine res2 (v := .pointer (some _)) (v2 := .iface _ (.pointer (some _))) rfl rfl rfl ?_ | refine res2 (v := .pointer none) (v2 := errV ad _) rfl rfl rfl ?_ | refine res2 (v := .pointer none) (v2 := .nilIface) rfl rfl rfl ?_ | refine res2 (v := .pointer none) (v2 := eV ad _ _) rfl rfl rfl ?_ | refine res2 (v := .pointer none) (v2 := .iface _ (.pointer (some _))) rfl rfl rfl ?_
      exact ⟨_, rfl, .inl ⟨107, by decide, by decide, by simp [Dk.file, hd, hn], rfl, hs⟩⟩
    | some i =>
      obtain ⟨b, hb, hp, hf⟩ := ho.ptrOf hs 4 rfl (ho.named hn)
      refine calls_cw Tryd.func83 rfl rfl ?_
      skip
      refine cw_seq ?_
      refine cw_region ?_
      first | refine lw_val rfl (run_assign (v := .pointer (some _)) rfl) ?_ | refine lw_val rfl (run_assign (v := .pointer none) rfl) ?_
      first | refine lw_val rfl (run_assign (v := errV ad _) rfl) ?_ | refine lw_val rfl (run_assign (v := .nilIface) rfl) ?_ | refine lw_val rfl (run_assign (v := eV ad _ _) rfl) ?_ | refine lw_val rfl (run_assign (v := .iface _ (.pointer (some _))) rfl) ?_
      refine lw_nil ?_
      refine cw_seq ?_
      refine cw_seq ?_
      refine cw_region ?_
      first | refine lw_val rfl (run_move (v := .pointer (some _)) rfl) ?_ | refine lw_val rfl (run_move (v := .pointer none) rfl) ?_
      refine lw_val rfl (run_nilCheckP rfl) ?_
      first | refine lw_val rfl (run_fieldAddr (o' := 6) Tryd.underlying110 rfl sz4 rfl rfl rfl) ?_ | refine lw_val rfl (run_fieldAddr Tryd.underlying110 rfl sz4 rfl rfl rfl) ?_
      first | refine lw_val rfl (run_load Tryd.underlying4 rfl rfl (hs.cellAt 0 rfl rfl)) ?_ | refine lw_val rfl (run_load Tryd.underlying4 rfl rfl (hs.cellAt 1 rfl rfl)) ?_ | refine lw_val rfl (run_load Tryd.underlying4 rfl rfl (hs.cellAt 2 rfl rfl)) ?_ | refine lw_val rfl (run_load Tryd.underlying4 rfl rfl (hs.cellAt 3 rfl rfl)) ?_ | refine lw_val rfl (run_load Tryd.underlying4 rfl rfl (hs.cellAt 4 rfl rfl)) ?_ | refine lw_val rfl (run_load Tryd.underlying4 rfl rfl (hs.cellAt 5 rfl rfl)) ?_ | refine lw_val rfl (run_load Tryd.underlying4 rfl rfl (hs.cellAt 6 rfl rfl)) ?_ | refine lw_val rfl (run_load Tryd.underlying4 rfl rfl (hs.cellAt 7 rfl rfl)) ?_ | refine lw_val rfl (run_load Tryd.underlying4 rfl rfl (hs.cellAt 8 rfl rfl)) ?_ | refine lw_val rfl (run_load Tryd.underlying4 rfl rfl (hs.cellAt 9 rfl rfl)) ?_ | refine lw_val rfl (run_load Tryd.underlying4 rfl rfl (hs.cellAt 10 rfl rfl)) ?_ | refine lw_val rfl (run_load Tryd.underlying4 rfl rfl (hs.cellAt 11 rfl rfl)) ?_ | refine lw_val rfl (run_load Tryd.underlying4 rfl rfl (hs.cellAt 12 rfl rfl)) ?_ | refine lw_val rfl (run_load Tryd.underlying4 rfl rfl (hs.cellAt 13 rfl rfl)) ?_
      refine lw_nil ?_
      refine cw_iff rfl (hd) ?_
      refine cw_skip ?_
      refine cw_seq ?_
      refine cw_region ?_
      first | refine lw_val rfl (run_move (v := .pointer (some _)) rfl) ?_ | refine lw_val rfl (run_move (v := .pointer none) rfl) ?_
      refine lw_val rfl (run_nilCheckP rfl) ?_
      first | refine lw_val rfl (run_fieldAddr (o' := 1) Tryd.underlying110 rfl sz107 rfl rfl rfl) ?_ | refine lw_val rfl (run_fieldAddr Tryd.underlying110 rfl sz107 rfl rfl rfl) ?_
      first | refine lw_val rfl (run_load Tryd.underlying107 rfl rfl (hs.cellAt 0 rfl rfl)) ?_ | refine lw_val rfl (run_load Tryd.underlying107 rfl rfl (hs.cellAt 1 rfl rfl)) ?_ | refine lw_val rfl (run_load Tryd.underlying107 rfl rfl (hs.cellAt 2 rfl rfl)) ?_ | refine lw_val rfl (run_load Tryd.underlying107 rfl rfl (hs.cellAt 3 rfl rfl)) ?_ | refine lw_val rfl (run_load Tryd.underlying107 rfl rfl (hs.cellAt 4 rfl rfl)) ?_ | refine lw_val rfl (run_load Tryd.underlying107 rfl rfl (hs.cellAt 5 rfl rfl)) ?_ | refine lw_val rfl (run_load Tryd.underlying107 rfl rfl (hs.cellAt 6 rfl rfl)) ?_ | refine lw_val rfl (run_load Tryd.underlying107 rfl rfl (hs.cellAt 7 rfl rfl)) ?_ | refine lw_val rfl (run_load Tryd.underlying107 rfl rfl (hs.cellAt 8 rfl rfl)) ?_ | refine lw_val rfl (run_load Tryd.underlying107 rfl rfl (hs.cellAt 9 rfl rfl)) ?_ | refine lw_val rfl (run_load Tryd.underlying107 rfl rfl (hs.cellAt 10 rfl rfl)) ?_ | refine lw_val rfl (run_load Tryd.underlying107 rfl rfl (hs.cellAt 11 rfl rfl)) ?_ | refine lw_val rfl (run_load Tryd.underlying107 rfl rfl (hs.cellAt 12 rfl rfl)) ?_ | refine lw_val rfl (run_load Tryd.underlying107 rfl rfl (hs.cellAt 13 rfl rfl)) ?_
      first | refine lw_val rfl (run_move (v := .string _) rfl) ?_
      first | refine lw_val rfl (run_lookup (hs.mapAt 0 rfl) strKind Tryd.underlying107 Tryd.underlying9 ze112 rfl rfl (o := some (.pointer (some ⟨b, 0, none⟩))) (by rw [nmV_get, hn, Option.map_some, hp])) ?_ | refine lw_val rfl (run_lookup (hs.mapAt 1 rfl) strKind Tryd.underlying107 Tryd.underlying9 ze112 rfl rfl (o := some (.pointer (some ⟨b, 0, none⟩))) (by rw [nmV_get, hn, Option.map_some, hp])) ?_ | refine lw_val rfl (run_lookup (hs.mapAt 2 rfl) strKind Tryd.underlying107 Tryd.underlying9 ze112 rfl rfl (o := some (.pointer (some ⟨b, 0, none⟩))) (by rw [nmV_get, hn, Option.map_some, hp])) ?_ | refine lw_val rfl (run_lookup (hs.mapAt 3 rfl) strKind Tryd.underlying107 Tryd.underlying9 ze112 rfl rfl (o := some (.pointer (some ⟨b, 0, none⟩))) (by rw [nmV_get, hn, Option.map_some, hp])) ?_ | refine lw_val rfl (run_lookup (hs.mapAt 4 rfl) strKind Tryd.underlying107 Tryd.underlying9 ze112 rfl rfl (o := some (.pointer (some ⟨b, 0, none⟩))) (by rw [nmV_get, hn, Option.map_some, hp])) ?_ | refine lw_val rfl (run_lookup (hs.mapAt 5 rfl) strKind Tryd.underlying107 Tryd.underlying9 ze112 rfl rfl (o := some (.pointer (some ⟨b, 0, none⟩))) (by rw [nmV_get, hn, Option.map_some, hp])) ?_ | refine lw_val rfl (run_lookup (hs.mapAt 6 rfl) strKind Tryd.underlying107 Tryd.underlying9 ze112 rfl rfl (o := some (.pointer (some ⟨b, 0, none⟩))) (by rw [nmV_get, hn, Option.map_some, hp])) ?_ | refine lw_val rfl (run_lookup (hs.mapAt 7 rfl) strKind Tryd.underlying107 Tryd.underlying9 ze112 rfl rfl (o := some (.pointer (some ⟨b, 0, none⟩))) (by rw [nmV_get, hn, Option.map_some, hp])) ?_ | refine lw_val rfl (run_lookup (hs.mapAt 8 rfl) strKind Tryd.underlying107 Tryd.underlying9 ze112 rfl rfl (o := some (.pointer (some ⟨b, 0, none⟩))) (by rw [nmV_get, hn, Option.map_some, hp])) ?_ | refine lw_val rfl (run_lookup (hs.mapAt 9 rfl) strKind Tryd.underlying107 Tryd.underlying9 ze112 rfl rfl (o := some (.pointer (some ⟨b, 0, none⟩))) (by rw [nmV_get, hn, Option.map_some, hp])) ?_ | refine lw_val rfl (run_lookup (hs.mapAt 10 rfl) strKind Tryd.underlying107 Tryd.underlying9 ze112 rfl rfl (o := some (.pointer (some ⟨b, 0, none⟩))) (by rw [nmV_get, hn, Option.map_some, hp])) ?_ | refine lw_val rfl (run_lookup (hs.mapAt 11 rfl) strKind Tryd.underlying107 Tryd.underlying9 ze112 rfl rfl (o := some (.pointer (some ⟨b, 0, none⟩))) (by rw [nmV_get, hn, Option.map_some, hp])) ?_ | refine lw_val rfl (run_lookup (hs.mapAt 12 rfl) strKind Tryd.underlying107 Tryd.underlying9 ze112 rfl rfl (o := some (.pointer (some ⟨b, 0, none⟩))) (by rw [nmV_get, hn, Option.map_some, hp])) ?_ | refine lw_val rfl (run_lookup (hs.mapAt 13 rfl) strKind Tryd.underlying107 Tryd.underlying9 ze112 rfl rfl (o := some (.pointer (some ⟨b, 0, none⟩))) (by rw [nmV_get, hn, Option.map_some, hp])) ?_
      first | refine lw_val rfl (run_assign (v := .pointer (some _)) rfl) ?_ | refine lw_val rfl (run_assign (v := .pointer none) rfl) ?_
      refine lw_nil ?_
      refine cw_seq ?_
      refine cw_seq ?_
      refine cw_region ?_
      first | refine lw_val rfl (run_move (v := .pointer (some _)) rfl) ?_ | refine lw_val rfl (run_move (v := .pointer none) rfl) ?_
      refine lw_val rfl (run_eqpn Tryd.underlying112 rfl rfl) ?_
      refine lw_nil ?_
      refine cw_iff rfl rfl ?_
      refine cw_skip ?_
      refine cw_seq ?_
      refine cw_region ?_
      first | refine lw_val rfl (run_move (v := .pointer (some _)) rfl) ?_ | refine lw_val rfl (run_move (v := .pointer none) rfl) ?_
      first | refine lw_val rfl (run_assign (v := .pointer (some _)) rfl) ?_ | refine lw_val rfl (run_assign (v := .pointer none) rfl) ?_
      first | refine lw_val rfl (run_assign (v := errV ad _) rfl) ?_ | refine lw_val rfl (run_assign (v := .nilIface) rfl) ?_ | refine lw_val rfl (run_assign (v := eV ad _ _) rfl) ?_ | refine lw_val rfl (run_assign (v := .iface _ (.pointer (some _))) rfl) ?_
      refine lw_nil ?_
      refine cw_ret ?_
      first | refine res2 (v := .pointer (some _)) (v2 := errV ad _) rfl rfl rfl ?_ | refine res2 (v := .pointer (some _)) (v2 := .nilIface) rfl rfl rfl ?_ | refine res2 (v := .pointer (some _)) (v2 := eV ad _ _) rfl rfl rfl ?_ | refine res2 (v := .pointer (some _)) (v2 := .iface _ (.pointer (some _))) rfl rfl rfl ?_ | refine res2 (v := .pointer none) (v2 := errV ad _) rfl rfl rfl ?_ | refine res2 (v := .pointer none) (v2 := .nilIface) rfl rfl rfl ?_ | refine res2 (v := .pointer none) (v2 := eV ad _ _) rfl rfl rfl ?_ | refine res2 (v := .pointer none) (v2 := .iface _ (.pointer (some _))) rfl rfl rfl ?_
      exact ⟨_, rfl, .inr ⟨i, b, by simp [Dk.file, hd, hn], ho.named hn, hb, hf, rfl, hs⟩⟩
theorem find_sl (hE : ErrK ad g) (ho : d.ok) (n : ByteArray) (hs : Mem g w (diskParts p d mn mk sa sc ptr ++ L)) {c0 : Nat} {o : Option Nat} {d1 : Dk} (hf : d.find n = (c0, o, d1)) : Calls Tryd.prog 79 #[.pointer (some ⟨p, 0, none⟩), .string n] w (Ret (FileRet g ad L p mn mk sa sc ptr d1 (c0, o))) := by
  obtain rfl := Dk.find_dk hf
  have hc := d.begin_code
  refine calls_cw Tryd.func79 rfl rfl ?_
  skip
  refine cw_seq ?_
  refine cw_region ?_
  first | refine lw_val rfl (run_assign (v := .pointer (some _)) rfl) ?_ | refine lw_val rfl (run_assign (v := .pointer none) rfl) ?_
  first | refine lw_val rfl (run_assign (v := errV ad _) rfl) ?_ | refine lw_val rfl (run_assign (v := .nilIface) rfl) ?_ | refine lw_val rfl (run_assign (v := eV ad _ _) rfl) ?_ | refine lw_val rfl (run_assign (v := .iface _ (.pointer (some _))) rfl) ?_
  refine lw_nil ?_
  refine cw_seq ?_
  refine cw_seq ?_
  refine cw_region ?_
  first | refine lw_val rfl (run_move (v := .pointer (some _)) rfl) ?_ | refine lw_val rfl (run_move (v := .pointer none) rfl) ?_
  refine lw_call rfl en77 (begin_sl hE ho hs) ?_
  clear hs
  rintro _ w ⟨rfl, hs⟩
  first | refine lw_val rfl (run_assign (v := errV ad _) rfl) ?_ | refine lw_val rfl (run_assign (v := .nilIface) rfl) ?_ | refine lw_val rfl (run_assign (v := eV ad _ _) rfl) ?_ | refine lw_val rfl (run_assign (v := .iface _ (.pointer (some _))) rfl) ?_
  refine lw_nil ?_
  refine cw_seq ?_
  refine cw_region ?_
  first | refine lw_val rfl (run_move (v := errV ad _) rfl) ?_ | refine lw_val rfl (run_move (v := .nilIface) rfl) ?_ | refine lw_val rfl (run_move (v := eV ad _ _) rfl) ?_ | refine lw_val rfl (run_move (v := .iface _ (.pointer (some _))) rfl) ?_
  first | refine lw_val rfl (run_neerrn (ad := ad) rfl) ?_ | refine lw_val rfl (run_nenn rfl) ?_ | refine lw_val rfl (run_neE (ad := ad) rfl) ?_
  refine lw_nil ?_
  refine cw_if rfl ?_ ?_
  · intro h10
    have g10 := ne_t h10
    refine cw_seq ?_
    refine cw_region ?_
    first | refine lw_val rfl (run_move (v := errV ad _) rfl) ?_ | refine lw_val rfl (run_move (v := .nilIface) rfl) ?_ | refine lw_val rfl (run_move (v := eV ad _ _) rfl) ?_ | refine lw_val rfl (run_move (v := .iface _ (.pointer (some _))) rfl) ?_
    first | refine lw_val rfl (run_assign (v := .pointer (some _)) rfl) ?_ | refine lw_val rfl (run_assign (v := .pointer none) rfl) ?_
    first | refine lw_val rfl (run_assign (v := errV ad _) rfl) ?_ | refine lw_val rfl (run_assign (v := .nilIface) rfl) ?_ | refine lw_val rfl (run_assign (v := eV ad _ _) rfl) ?_ | refine lw_val rfl (run_assign (v := .iface _ (.pointer (some _))) rfl) ?_
    refine lw_nil ?_
    refine cw_ret ?_
    first | refine res2 (v := .pointer (some _)) (v2 := errV ad _) rfl rfl rfl ?_ | refine res2 (v := .pointer (some _)) (v2 := .nilIface) rfl rfl rfl ?_ | refine res2 (v := .pointer (some _)) (v2 := eV ad _ _) rfl rfl rfl ?_ | refine res2 (v := .pointer (some _)) (v2 := .iface _ (.pointer (some _))) rfl rfl rfl ?_ | refine res2 (v := .pointer none) (v2 := errV ad _) rfl rfl rfl ?_ | refine res2 (v := .pointer none) (v2 := .nilIface) rfl rfl rfl ?_ | refine res2 (v := .pointer none) (v2 := eV ad _ _) rfl rfl rfl ?_ | refine res2 (v := .pointer none) (v2 := .iface _ (.pointer (some _))) rfl rfl rfl ?_
    have hb : d.begin.1 = 110 := by simp at h10; omega
    rw [hb]
    refine ⟨_, rfl, .inl ⟨110, by decide, by decide, ?_, rfl, hs⟩⟩
    simp [Dk.find, hb] at hf
    simp [← hf.1, ← hf.2]
  · intro h10
    have g10 := ne_f h10
    refine cw_skip ?_
    refine cw_seq ?_
    refine cw_region ?_
    first | refine lw_val rfl (run_move (v := .pointer (some _)) rfl) ?_ | refine lw_val rfl (run_move (v := .pointer none) rfl) ?_
    first | refine lw_val rfl (run_move (v := .string _) rfl) ?_
    refine lw_call rfl en83 (file_sl hE ho.begin n hs) ?_
    clear hs
    rintro _ w ((⟨c14, hc14, h014, hr14, rfl, hs⟩) | (⟨i14, b14, hr14, hk14, hb14, hf14, rfl, hs⟩))
    · skip
      first | refine lw_val rfl (run_extract (v := .pointer (some _)) rfl rfl) ?_ | refine lw_val rfl (run_extract (v := .pointer none) rfl rfl) ?_
      first | refine lw_val rfl (run_extract (v := errV ad _) rfl rfl) ?_ | refine lw_val rfl (run_extract (v := .nilIface) rfl rfl) ?_ | refine lw_val rfl (run_extract (v := eV ad _ _) rfl rfl) ?_ | refine lw_val rfl (run_extract (v := .iface _ (.pointer (some _))) rfl rfl) ?_
      first | refine lw_val rfl (run_assign (v := .pointer (some _)) rfl) ?_ | refine lw_val rfl (run_assign (v := .pointer none) rfl) ?_
      first | refine lw_val rfl (run_assign (v := errV ad _) rfl) ?_ | refine lw_val rfl (run_assign (v := .nilIface) rfl) ?_ | refine lw_val rfl (run_assign (v := eV ad _ _) rfl) ?_ | refine lw_val rfl (run_assign (v := .iface _ (.pointer (some _))) rfl) ?_
      refine lw_nil ?_
      refine cw_ret ?_
      first | refine res2 (v := .pointer (some _)) (v2 := errV ad _) rfl rfl rfl ?_ | refine res2 (v := .pointer (some _)) (v2 := .nilIface) rfl rfl rfl ?_ | refine res2 (v := .pointer (some _)) (v2 := eV ad _ _) rfl rfl rfl ?_ | refine res2 (v := .pointer (some _)) (v2 := .iface _ (.pointer (some _))) rfl rfl rfl ?_ | refine res2 (v := .pointer none) (v2 := errV ad _) rfl rfl rfl ?_ | refine res2 (v := .pointer none) (v2 := .nilIface) rfl rfl rfl ?_ | refine res2 (v := .pointer none) (v2 := eV ad _ _) rfl rfl rfl ?_ | refine res2 (v := .pointer none) (v2 := .iface _ (.pointer (some _))) rfl rfl rfl ?_
      have hb : d.begin.1 = 0 := by simpa using h10
      simp only [Dk.find, hb, if_true, Prod.mk.injEq] at hf
      exact ⟨_, rfl, .inl ⟨c14, hc14, h014, by rw [← hf.1, ← hf.2.1]; exact hr14, rfl, hs⟩⟩
    · skip
      first | refine lw_val rfl (run_extract (v := .pointer (some _)) rfl rfl) ?_ | refine lw_val rfl (run_extract (v := .pointer none) rfl rfl) ?_
      first | refine lw_val rfl (run_extract (v := errV ad _) rfl rfl) ?_ | refine lw_val rfl (run_extract (v := .nilIface) rfl rfl) ?_ | refine lw_val rfl (run_extract (v := eV ad _ _) rfl rfl) ?_ | refine lw_val rfl (run_extract (v := .iface _ (.pointer (some _))) rfl rfl) ?_
      first | refine lw_val rfl (run_assign (v := .pointer (some _)) rfl) ?_ | refine lw_val rfl (run_assign (v := .pointer none) rfl) ?_
      first | refine lw_val rfl (run_assign (v := errV ad _) rfl) ?_ | refine lw_val rfl (run_assign (v := .nilIface) rfl) ?_ | refine lw_val rfl (run_assign (v := eV ad _ _) rfl) ?_ | refine lw_val rfl (run_assign (v := .iface _ (.pointer (some _))) rfl) ?_
      refine lw_nil ?_
      refine cw_ret ?_
      first | refine res2 (v := .pointer (some _)) (v2 := errV ad _) rfl rfl rfl ?_ | refine res2 (v := .pointer (some _)) (v2 := .nilIface) rfl rfl rfl ?_ | refine res2 (v := .pointer (some _)) (v2 := eV ad _ _) rfl rfl rfl ?_ | refine res2 (v := .pointer (some _)) (v2 := .iface _ (.pointer (some _))) rfl rfl rfl ?_ | refine res2 (v := .pointer none) (v2 := errV ad _) rfl rfl rfl ?_ | refine res2 (v := .pointer none) (v2 := .nilIface) rfl rfl rfl ?_ | refine res2 (v := .pointer none) (v2 := eV ad _ _) rfl rfl rfl ?_ | refine res2 (v := .pointer none) (v2 := .iface _ (.pointer (some _))) rfl rfl rfl ?_
      have hb : d.begin.1 = 0 := by simpa using h10
      simp only [Dk.find, hb, if_true, Prod.mk.injEq] at hf
      exact ⟨_, rfl, .inr ⟨i14, b14, by rw [← hf.1, ← hf.2.1]; exact hr14, hk14, hb14, hf14, rfl, hs⟩⟩

/-! ### apply, change -/
theorem apply_sl {m : Nat} {l : List (ByteArray × Nat)} (hs : Mem g w (mapS m (nmV ptr l) :: L)) (c : Chg) (hp : ∀ i, c.f = some i → ∃ b, aget ptr i = some b) {row : List Value} (hrow : chgV ptr c = row) : Calls Tryd.prog 86 #[.map (some m), .agg row.toArray] w (Ret fun v w' => v = .tuple #[] ∧ Mem g w' (mapS m (nmV ptr (c.app l)) :: L)) := by
  subst hrow
  obtain ⟨nm, gn, f⟩ := c
  cases f with
  | none =>
    simp only [chgV]
    refine calls_cw Tryd.func86 rfl rfl ?_
    skip
    refine cw_seq ?_
    refine cw_region ?_
    refine lw_box (v := .agg _) hs rfl rfl ?_
    clear hs
    intro b3 w hs
    refine lw_nil ?_
    refine cw_seq ?_
    refine cw_seq ?_
    refine cw_region ?_
    first | refine lw_val rfl (run_fieldAddr (o' := 1) Tryd.underlying117 rfl sz9 rfl rfl rfl) ?_ | refine lw_val rfl (run_fieldAddr Tryd.underlying117 rfl sz9 rfl rfl rfl) ?_
    first | refine lw_val rfl (run_load Tryd.underlying9 rfl rfl (hs.cellAt 0 rfl rfl)) ?_ | refine lw_val rfl (run_load Tryd.underlying9 rfl rfl (hs.cellAt 1 rfl rfl)) ?_ | refine lw_val rfl (run_load Tryd.underlying9 rfl rfl (hs.cellAt 2 rfl rfl)) ?_ | refine lw_val rfl (run_load Tryd.underlying9 rfl rfl (hs.cellAt 3 rfl rfl)) ?_ | refine lw_val rfl (run_load Tryd.underlying9 rfl rfl (hs.cellAt 4 rfl rfl)) ?_ | refine lw_val rfl (run_load Tryd.underlying9 rfl rfl (hs.cellAt 5 rfl rfl)) ?_ | refine lw_val rfl (run_load Tryd.underlying9 rfl rfl (hs.cellAt 6 rfl rfl)) ?_ | refine lw_val rfl (run_load Tryd.underlying9 rfl rfl (hs.cellAt 7 rfl rfl)) ?_ | refine lw_val rfl (run_load Tryd.underlying9 rfl rfl (hs.cellAt 8 rfl rfl)) ?_ | refine lw_val rfl (run_load Tryd.underlying9 rfl rfl (hs.cellAt 9 rfl rfl)) ?_ | refine lw_val rfl (run_load Tryd.underlying9 rfl rfl (hs.cellAt 10 rfl rfl)) ?_ | refine lw_val rfl (run_load Tryd.underlying9 rfl rfl (hs.cellAt 11 rfl rfl)) ?_ | refine lw_val rfl (run_load Tryd.underlying9 rfl rfl (hs.cellAt 12 rfl rfl)) ?_ | refine lw_val rfl (run_load Tryd.underlying9 rfl rfl (hs.cellAt 13 rfl rfl)) ?_
    refine lw_val rfl (run_nes rfl rfl) ?_
    refine lw_nil ?_
    refine cw_if rfl ?_ ?_
    · intro h6
      have g6 := ne_t h6
      refine cw_region ?_
      first | refine lw_val rfl (run_move (v := .map _) rfl) ?_
      first | refine lw_val rfl (run_fieldAddr (o' := 1) Tryd.underlying117 rfl sz9 rfl rfl rfl) ?_ | refine lw_val rfl (run_fieldAddr Tryd.underlying117 rfl sz9 rfl rfl rfl) ?_
      first | refine lw_val rfl (run_load Tryd.underlying9 rfl rfl (hs.cellAt 0 rfl rfl)) ?_ | refine lw_val rfl (run_load Tryd.underlying9 rfl rfl (hs.cellAt 1 rfl rfl)) ?_ | refine lw_val rfl (run_load Tryd.underlying9 rfl rfl (hs.cellAt 2 rfl rfl)) ?_ | refine lw_val rfl (run_load Tryd.underlying9 rfl rfl (hs.cellAt 3 rfl rfl)) ?_ | refine lw_val rfl (run_load Tryd.underlying9 rfl rfl (hs.cellAt 4 rfl rfl)) ?_ | refine lw_val rfl (run_load Tryd.underlying9 rfl rfl (hs.cellAt 5 rfl rfl)) ?_ | refine lw_val rfl (run_load Tryd.underlying9 rfl rfl (hs.cellAt 6 rfl rfl)) ?_ | refine lw_val rfl (run_load Tryd.underlying9 rfl rfl (hs.cellAt 7 rfl rfl)) ?_ | refine lw_val rfl (run_load Tryd.underlying9 rfl rfl (hs.cellAt 8 rfl rfl)) ?_ | refine lw_val rfl (run_load Tryd.underlying9 rfl rfl (hs.cellAt 9 rfl rfl)) ?_ | refine lw_val rfl (run_load Tryd.underlying9 rfl rfl (hs.cellAt 10 rfl rfl)) ?_ | refine lw_val rfl (run_load Tryd.underlying9 rfl rfl (hs.cellAt 11 rfl rfl)) ?_ | refine lw_val rfl (run_load Tryd.underlying9 rfl rfl (hs.cellAt 12 rfl rfl)) ?_ | refine lw_val rfl (run_load Tryd.underlying9 rfl rfl (hs.cellAt 13 rfl rfl)) ?_
      first | refine lw_delete hs rfl 0 rfl strKind Tryd.underlying107 Tryd.underlying9 rfl rfl ?_ | refine lw_delete hs rfl 1 rfl strKind Tryd.underlying107 Tryd.underlying9 rfl rfl ?_ | refine lw_delete hs rfl 2 rfl strKind Tryd.underlying107 Tryd.underlying9 rfl rfl ?_ | refine lw_delete hs rfl 3 rfl strKind Tryd.underlying107 Tryd.underlying9 rfl rfl ?_ | refine lw_delete hs rfl 4 rfl strKind Tryd.underlying107 Tryd.underlying9 rfl rfl ?_ | refine lw_delete hs rfl 5 rfl strKind Tryd.underlying107 Tryd.underlying9 rfl rfl ?_ | refine lw_delete hs rfl 6 rfl strKind Tryd.underlying107 Tryd.underlying9 rfl rfl ?_ | refine lw_delete hs rfl 7 rfl strKind Tryd.underlying107 Tryd.underlying9 rfl rfl ?_ | refine lw_delete hs rfl 8 rfl strKind Tryd.underlying107 Tryd.underlying9 rfl rfl ?_ | refine lw_delete hs rfl 9 rfl strKind Tryd.underlying107 Tryd.underlying9 rfl rfl ?_ | refine lw_delete hs rfl 10 rfl strKind Tryd.underlying107 Tryd.underlying9 rfl rfl ?_ | refine lw_delete hs rfl 11 rfl strKind Tryd.underlying107 Tryd.underlying9 rfl rfl ?_ | refine lw_delete hs rfl 12 rfl strKind Tryd.underlying107 Tryd.underlying9 rfl rfl ?_ | refine lw_delete hs rfl 13 rfl strKind Tryd.underlying107 Tryd.underlying9 rfl rfl ?_
      clear hs
      intro w hs
      try simp only [List.set_cons_succ, List.set_cons_zero] at hs
      refine lw_nil ?_
      refine cw_seq ?_
      refine cw_region ?_
      first | refine lw_val rfl (run_fieldAddr (o' := 2) Tryd.underlying117 rfl sz112 rfl rfl rfl) ?_ | refine lw_val rfl (run_fieldAddr Tryd.underlying117 rfl sz112 rfl rfl rfl) ?_
      first | refine lw_val rfl (run_load Tryd.underlying112 rfl rfl (hs.cellAt 0 rfl rfl)) ?_ | refine lw_val rfl (run_load Tryd.underlying112 rfl rfl (hs.cellAt 1 rfl rfl)) ?_ | refine lw_val rfl (run_load Tryd.underlying112 rfl rfl (hs.cellAt 2 rfl rfl)) ?_ | refine lw_val rfl (run_load Tryd.underlying112 rfl rfl (hs.cellAt 3 rfl rfl)) ?_ | refine lw_val rfl (run_load Tryd.underlying112 rfl rfl (hs.cellAt 4 rfl rfl)) ?_ | refine lw_val rfl (run_load Tryd.underlying112 rfl rfl (hs.cellAt 5 rfl rfl)) ?_ | refine lw_val rfl (run_load Tryd.underlying112 rfl rfl (hs.cellAt 6 rfl rfl)) ?_ | refine lw_val rfl (run_load Tryd.underlying112 rfl rfl (hs.cellAt 7 rfl rfl)) ?_ | refine lw_val rfl (run_load Tryd.underlying112 rfl rfl (hs.cellAt 8 rfl rfl)) ?_ | refine lw_val rfl (run_load Tryd.underlying112 rfl rfl (hs.cellAt 9 rfl rfl)) ?_ | refine lw_val rfl (run_load Tryd.underlying112 rfl rfl (hs.cellAt 10 rfl rfl)) ?_ | refine lw_val rfl (run_load Tryd.underlying112 rfl rfl (hs.cellAt 11 rfl rfl)) ?_ | refine lw_val rfl (run_load Tryd.underlying112 rfl rfl (hs.cellAt 12 rfl rfl)) ?_ | refine lw_val rfl (run_load Tryd.underlying112 rfl rfl (hs.cellAt 13 rfl rfl)) ?_
      refine lw_val rfl (run_nepn Tryd.underlying112 rfl rfl) ?_
      refine lw_nil ?_
      refine cw_iff rfl (rfl) ?_
      refine cw_skip ?_
      refine res0  rfl ?_
      exact ⟨_, rfl, rfl, by have h1 := hs.tail; rw [← nmV_del] at h1; simp only [Chg.app]; rw [if_neg (show gn ≠ ByteArray.empty from g6)]; exact h1⟩
    · intro h6
      have g6 := ne_f h6
      refine cw_skip ?_
      refine cw_seq ?_
      refine cw_region ?_
      first | refine lw_val rfl (run_fieldAddr (o' := 2) Tryd.underlying117 rfl sz112 rfl rfl rfl) ?_ | refine lw_val rfl (run_fieldAddr Tryd.underlying117 rfl sz112 rfl rfl rfl) ?_
      first | refine lw_val rfl (run_load Tryd.underlying112 rfl rfl (hs.cellAt 0 rfl rfl)) ?_ | refine lw_val rfl (run_load Tryd.underlying112 rfl rfl (hs.cellAt 1 rfl rfl)) ?_ | refine lw_val rfl (run_load Tryd.underlying112 rfl rfl (hs.cellAt 2 rfl rfl)) ?_ | refine lw_val rfl (run_load Tryd.underlying112 rfl rfl (hs.cellAt 3 rfl rfl)) ?_ | refine lw_val rfl (run_load Tryd.underlying112 rfl rfl (hs.cellAt 4 rfl rfl)) ?_ | refine lw_val rfl (run_load Tryd.underlying112 rfl rfl (hs.cellAt 5 rfl rfl)) ?_ | refine lw_val rfl (run_load Tryd.underlying112 rfl rfl (hs.cellAt 6 rfl rfl)) ?_ | refine lw_val rfl (run_load Tryd.underlying112 rfl rfl (hs.cellAt 7 rfl rfl)) ?_ | refine lw_val rfl (run_load Tryd.underlying112 rfl rfl (hs.cellAt 8 rfl rfl)) ?_ | refine lw_val rfl (run_load Tryd.underlying112 rfl rfl (hs.cellAt 9 rfl rfl)) ?_ | refine lw_val rfl (run_load Tryd.underlying112 rfl rfl (hs.cellAt 10 rfl rfl)) ?_ | refine lw_val rfl (run_load Tryd.underlying112 rfl rfl (hs.cellAt 11 rfl rfl)) ?_ | refine lw_val rfl (run_load Tryd.underlying112 rfl rfl (hs.cellAt 12 rfl rfl)) ?_ | refine lw_val rfl (run_load Tryd.underlying112 rfl rfl (hs.cellAt 13 rfl rfl)) ?_
      refine lw_val rfl (run_nepn Tryd.underlying112 rfl rfl) ?_
      refine lw_nil ?_
      refine cw_iff rfl (rfl) ?_
      refine cw_skip ?_
      refine res0  rfl ?_
      exact ⟨_, rfl, rfl, by have h1 := hs.tail; simp only [Chg.app]; rw [if_pos (show gn = ByteArray.empty from g6)]; exact h1⟩
  | some i =>
    obtain ⟨b, hb⟩ := hp i rfl
    simp only [chgV, fptr_some hb]
    refine calls_cw Tryd.func86 rfl rfl ?_
    skip
    refine cw_seq ?_
    refine cw_region ?_
    refine lw_box (v := .agg _) hs rfl rfl ?_
    clear hs
    intro b3 w hs
    refine lw_nil ?_
    refine cw_seq ?_
    refine cw_seq ?_
    refine cw_region ?_
    first | refine lw_val rfl (run_fieldAddr (o' := 1) Tryd.underlying117 rfl sz9 rfl rfl rfl) ?_ | refine lw_val rfl (run_fieldAddr Tryd.underlying117 rfl sz9 rfl rfl rfl) ?_
    first | refine lw_val rfl (run_load Tryd.underlying9 rfl rfl (hs.cellAt 0 rfl rfl)) ?_ | refine lw_val rfl (run_load Tryd.underlying9 rfl rfl (hs.cellAt 1 rfl rfl)) ?_ | refine lw_val rfl (run_load Tryd.underlying9 rfl rfl (hs.cellAt 2 rfl rfl)) ?_ | refine lw_val rfl (run_load Tryd.underlying9 rfl rfl (hs.cellAt 3 rfl rfl)) ?_ | refine lw_val rfl (run_load Tryd.underlying9 rfl rfl (hs.cellAt 4 rfl rfl)) ?_ | refine lw_val rfl (run_load Tryd.underlying9 rfl rfl (hs.cellAt 5 rfl rfl)) ?_ | refine lw_val rfl (run_load Tryd.underlying9 rfl rfl (hs.cellAt 6 rfl rfl)) ?_ | refine lw_val rfl (run_load Tryd.underlying9 rfl rfl (hs.cellAt 7 rfl rfl)) ?_ | refine lw_val rfl (run_load Tryd.underlying9 rfl rfl (hs.cellAt 8 rfl rfl)) ?_ | refine lw_val rfl (run_load Tryd.underlying9 rfl rfl (hs.cellAt 9 rfl rfl)) ?_ | refine lw_val rfl (run_load Tryd.underlying9 rfl rfl (hs.cellAt 10 rfl rfl)) ?_ | refine lw_val rfl (run_load Tryd.underlying9 rfl rfl (hs.cellAt 11 rfl rfl)) ?_ | refine lw_val rfl (run_load Tryd.underlying9 rfl rfl (hs.cellAt 12 rfl rfl)) ?_ | refine lw_val rfl (run_load Tryd.underlying9 rfl rfl (hs.cellAt 13 rfl rfl)) ?_
    refine lw_val rfl (run_nes rfl rfl) ?_
    refine lw_nil ?_
    refine cw_if rfl ?_ ?_
    · intro h6
      have g6 := ne_t h6
      refine cw_region ?_
      first | refine lw_val rfl (run_move (v := .map _) rfl) ?_
      first | refine lw_val rfl (run_fieldAddr (o' := 1) Tryd.underlying117 rfl sz9 rfl rfl rfl) ?_ | refine lw_val rfl (run_fieldAddr Tryd.underlying117 rfl sz9 rfl rfl rfl) ?_
      first | refine lw_val rfl (run_load Tryd.underlying9 rfl rfl (hs.cellAt 0 rfl rfl)) ?_ | refine lw_val rfl (run_load Tryd.underlying9 rfl rfl (hs.cellAt 1 rfl rfl)) ?_ | refine lw_val rfl (run_load Tryd.underlying9 rfl rfl (hs.cellAt 2 rfl rfl)) ?_ | refine lw_val rfl (run_load Tryd.underlying9 rfl rfl (hs.cellAt 3 rfl rfl)) ?_ | refine lw_val rfl (run_load Tryd.underlying9 rfl rfl (hs.cellAt 4 rfl rfl)) ?_ | refine lw_val rfl (run_load Tryd.underlying9 rfl rfl (hs.cellAt 5 rfl rfl)) ?_ | refine lw_val rfl (run_load Tryd.underlying9 rfl rfl (hs.cellAt 6 rfl rfl)) ?_ | refine lw_val rfl (run_load Tryd.underlying9 rfl rfl (hs.cellAt 7 rfl rfl)) ?_ | refine lw_val rfl (run_load Tryd.underlying9 rfl rfl (hs.cellAt 8 rfl rfl)) ?_ | refine lw_val rfl (run_load Tryd.underlying9 rfl rfl (hs.cellAt 9 rfl rfl)) ?_ | refine lw_val rfl (run_load Tryd.underlying9 rfl rfl (hs.cellAt 10 rfl rfl)) ?_ | refine lw_val rfl (run_load Tryd.underlying9 rfl rfl (hs.cellAt 11 rfl rfl)) ?_ | refine lw_val rfl (run_load Tryd.underlying9 rfl rfl (hs.cellAt 12 rfl rfl)) ?_ | refine lw_val rfl (run_load Tryd.underlying9 rfl rfl (hs.cellAt 13 rfl rfl)) ?_
      first | refine lw_delete hs rfl 0 rfl strKind Tryd.underlying107 Tryd.underlying9 rfl rfl ?_ | refine lw_delete hs rfl 1 rfl strKind Tryd.underlying107 Tryd.underlying9 rfl rfl ?_ | refine lw_delete hs rfl 2 rfl strKind Tryd.underlying107 Tryd.underlying9 rfl rfl ?_ | refine lw_delete hs rfl 3 rfl strKind Tryd.underlying107 Tryd.underlying9 rfl rfl ?_ | refine lw_delete hs rfl 4 rfl strKind Tryd.underlying107 Tryd.underlying9 rfl rfl ?_ | refine lw_delete hs rfl 5 rfl strKind Tryd.underlying107 Tryd.underlying9 rfl rfl ?_ | refine lw_delete hs rfl 6 rfl strKind Tryd.underlying107 Tryd.underlying9 rfl rfl ?_ | refine lw_delete hs rfl 7 rfl strKind Tryd.underlying107 Tryd.underlying9 rfl rfl ?_ | refine lw_delete hs rfl 8 rfl strKind Tryd.underlying107 Tryd.underlying9 rfl rfl ?_ | refine lw_delete hs rfl 9 rfl strKind Tryd.underlying107 Tryd.underlying9 rfl rfl ?_ | refine lw_delete hs rfl 10 rfl strKind Tryd.underlying107 Tryd.underlying9 rfl rfl ?_ | refine lw_delete hs rfl 11 rfl strKind Tryd.underlying107 Tryd.underlying9 rfl rfl ?_ | refine lw_delete hs rfl 12 rfl strKind Tryd.underlying107 Tryd.underlying9 rfl rfl ?_ | refine lw_delete hs rfl 13 rfl strKind Tryd.underlying107 Tryd.underlying9 rfl rfl ?_
      clear hs
      intro w hs
      try simp only [List.set_cons_succ, List.set_cons_zero] at hs
      refine lw_nil ?_
      refine cw_seq ?_
      refine cw_region ?_
      first | refine lw_val rfl (run_fieldAddr (o' := 2) Tryd.underlying117 rfl sz112 rfl rfl rfl) ?_ | refine lw_val rfl (run_fieldAddr Tryd.underlying117 rfl sz112 rfl rfl rfl) ?_
      first | refine lw_val rfl (run_load Tryd.underlying112 rfl rfl (hs.cellAt 0 rfl rfl)) ?_ | refine lw_val rfl (run_load Tryd.underlying112 rfl rfl (hs.cellAt 1 rfl rfl)) ?_ | refine lw_val rfl (run_load Tryd.underlying112 rfl rfl (hs.cellAt 2 rfl rfl)) ?_ | refine lw_val rfl (run_load Tryd.underlying112 rfl rfl (hs.cellAt 3 rfl rfl)) ?_ | refine lw_val rfl (run_load Tryd.underlying112 rfl rfl (hs.cellAt 4 rfl rfl)) ?_ | refine lw_val rfl (run_load Tryd.underlying112 rfl rfl (hs.cellAt 5 rfl rfl)) ?_ | refine lw_val rfl (run_load Tryd.underlying112 rfl rfl (hs.cellAt 6 rfl rfl)) ?_ | refine lw_val rfl (run_load Tryd.underlying112 rfl rfl (hs.cellAt 7 rfl rfl)) ?_ | refine lw_val rfl (run_load Tryd.underlying112 rfl rfl (hs.cellAt 8 rfl rfl)) ?_ | refine lw_val rfl (run_load Tryd.underlying112 rfl rfl (hs.cellAt 9 rfl rfl)) ?_ | refine lw_val rfl (run_load Tryd.underlying112 rfl rfl (hs.cellAt 10 rfl rfl)) ?_ | refine lw_val rfl (run_load Tryd.underlying112 rfl rfl (hs.cellAt 11 rfl rfl)) ?_ | refine lw_val rfl (run_load Tryd.underlying112 rfl rfl (hs.cellAt 12 rfl rfl)) ?_ | refine lw_val rfl (run_load Tryd.underlying112 rfl rfl (hs.cellAt 13 rfl rfl)) ?_
      refine lw_val rfl (run_nepn Tryd.underlying112 rfl rfl) ?_
      refine lw_nil ?_
      refine cw_ift rfl rfl ?_
      refine cw_region ?_
      first | refine lw_val rfl (run_move (v := .map _) rfl) ?_
      first | refine lw_val rfl (run_fieldAddr (o' := 0) Tryd.underlying117 rfl sz9 rfl rfl rfl) ?_ | refine lw_val rfl (run_fieldAddr Tryd.underlying117 rfl sz9 rfl rfl rfl) ?_
      first | refine lw_val rfl (run_load Tryd.underlying9 rfl rfl (hs.cellAt 0 rfl rfl)) ?_ | refine lw_val rfl (run_load Tryd.underlying9 rfl rfl (hs.cellAt 1 rfl rfl)) ?_ | refine lw_val rfl (run_load Tryd.underlying9 rfl rfl (hs.cellAt 2 rfl rfl)) ?_ | refine lw_val rfl (run_load Tryd.underlying9 rfl rfl (hs.cellAt 3 rfl rfl)) ?_ | refine lw_val rfl (run_load Tryd.underlying9 rfl rfl (hs.cellAt 4 rfl rfl)) ?_ | refine lw_val rfl (run_load Tryd.underlying9 rfl rfl (hs.cellAt 5 rfl rfl)) ?_ | refine lw_val rfl (run_load Tryd.underlying9 rfl rfl (hs.cellAt 6 rfl rfl)) ?_ | refine lw_val rfl (run_load Tryd.underlying9 rfl rfl (hs.cellAt 7 rfl rfl)) ?_ | refine lw_val rfl (run_load Tryd.underlying9 rfl rfl (hs.cellAt 8 rfl rfl)) ?_ | refine lw_val rfl (run_load Tryd.underlying9 rfl rfl (hs.cellAt 9 rfl rfl)) ?_ | refine lw_val rfl (run_load Tryd.underlying9 rfl rfl (hs.cellAt 10 rfl rfl)) ?_ | refine lw_val rfl (run_load Tryd.underlying9 rfl rfl (hs.cellAt 11 rfl rfl)) ?_ | refine lw_val rfl (run_load Tryd.underlying9 rfl rfl (hs.cellAt 12 rfl rfl)) ?_ | refine lw_val rfl (run_load Tryd.underlying9 rfl rfl (hs.cellAt 13 rfl rfl)) ?_
      first | refine lw_val rfl (run_fieldAddr (o' := 2) Tryd.underlying117 rfl sz112 rfl rfl rfl) ?_ | refine lw_val rfl (run_fieldAddr Tryd.underlying117 rfl sz112 rfl rfl rfl) ?_
      first | refine lw_val rfl (run_load Tryd.underlying112 rfl rfl (hs.cellAt 0 rfl rfl)) ?_ | refine lw_val rfl (run_load Tryd.underlying112 rfl rfl (hs.cellAt 1 rfl rfl)) ?_ | refine lw_val rfl (run_load Tryd.underlying112 rfl rfl (hs.cellAt 2 rfl rfl)) ?_ | refine lw_val rfl (run_load Tryd.underlying112 rfl rfl (hs.cellAt 3 rfl rfl)) ?_ | refine lw_val rfl (run_load Tryd.underlying112 rfl rfl (hs.cellAt 4 rfl rfl)) ?_ | refine lw_val rfl (run_load Tryd.underlying112 rfl rfl (hs.cellAt 5 rfl rfl)) ?_ | refine lw_val rfl (run_load Tryd.underlying112 rfl rfl (hs.cellAt 6 rfl rfl)) ?_ | refine lw_val rfl (run_load Tryd.underlying112 rfl rfl (hs.cellAt 7 rfl rfl)) ?_ | refine lw_val rfl (run_load Tryd.underlying112 rfl rfl (hs.cellAt 8 rfl rfl)) ?_ | refine lw_val rfl (run_load Tryd.underlying112 rfl rfl (hs.cellAt 9 rfl rfl)) ?_ | refine lw_val rfl (run_load Tryd.underlying112 rfl rfl (hs.cellAt 10 rfl rfl)) ?_ | refine lw_val rfl (run_load Tryd.underlying112 rfl rfl (hs.cellAt 11 rfl rfl)) ?_ | refine lw_val rfl (run_load Tryd.underlying112 rfl rfl (hs.cellAt 12 rfl rfl)) ?_ | refine lw_val rfl (run_load Tryd.underlying112 rfl rfl (hs.cellAt 13 rfl rfl)) ?_
      first | refine lw_mapUpdate (v := .pointer (some _)) hs 0 rfl strKind Tryd.underlying107 Tryd.underlying9 rfl rfl rfl ?_ | refine lw_mapUpdate (v := .pointer none) hs 0 rfl strKind Tryd.underlying107 Tryd.underlying9 rfl rfl rfl ?_ | refine lw_mapUpdate (v := .pointer (some _)) hs 1 rfl strKind Tryd.underlying107 Tryd.underlying9 rfl rfl rfl ?_ | refine lw_mapUpdate (v := .pointer none) hs 1 rfl strKind Tryd.underlying107 Tryd.underlying9 rfl rfl rfl ?_ | refine lw_mapUpdate (v := .pointer (some _)) hs 2 rfl strKind Tryd.underlying107 Tryd.underlying9 rfl rfl rfl ?_ | refine lw_mapUpdate (v := .pointer none) hs 2 rfl strKind Tryd.underlying107 Tryd.underlying9 rfl rfl rfl ?_ | refine lw_mapUpdate (v := .pointer (some _)) hs 3 rfl strKind Tryd.underlying107 Tryd.underlying9 rfl rfl rfl ?_ | refine lw_mapUpdate (v := .pointer none) hs 3 rfl strKind Tryd.underlying107 Tryd.underlying9 rfl rfl rfl ?_ | refine lw_mapUpdate (v := .pointer (some _)) hs 4 rfl strKind Tryd.underlying107 Tryd.underlying9 rfl rfl rfl ?_ | refine lw_mapUpdate (v := .pointer none) hs 4 rfl strKind Tryd.underlying107 Tryd.underlying9 rfl rfl rfl ?_ | refine lw_mapUpdate (v := .pointer (some _)) hs 5 rfl strKind Tryd.underlying107 Tryd.underlying9 rfl rfl rfl ?_ | refine lw_mapUpdate (v := .pointer none) hs 5 rfl strKind Tryd.underlying107 Tryd.underlying9 rfl rfl rfl ?_ | refine lw_mapUpdate (v := .pointer (some _)) hs 6 rfl strKind Tryd.underlying107 Tryd.underlying9 rfl rfl rfl ?_ | refine lw_mapUpdate (v := .pointer none) hs 6 rfl strKind Tryd.underlying107 Tryd.underlying9 rfl rfl rfl ?_ | refine lw_mapUpdate (v := .pointer (some _)) hs 7 rfl strKind Tryd.underlying107 Tryd.underlying9 rfl rfl rfl ?_ | refine lw_mapUpdate (v := .pointer none) hs 7 rfl strKind Tryd.underlying107 Tryd.underlying9 rfl rfl rfl ?_ | refine lw_mapUpdate (v := .pointer (some _)) hs 8 rfl strKind Tryd.underlying107 Tryd.underlying9 rfl rfl rfl ?_ | refine lw_mapUpdate (v := .pointer none) hs 8 rfl strKind Tryd.underlying107 Tryd.underlying9 rfl rfl rfl ?_ | refine lw_mapUpdate (v := .pointer (some _)) hs 9 rfl strKind Tryd.underlying107 Tryd.underlying9 rfl rfl rfl ?_ | refine lw_mapUpdate (v := .pointer none) hs 9 rfl strKind Tryd.underlying107 Tryd.underlying9 rfl rfl rfl ?_ | refine lw_mapUpdate (v := .pointer (some _)) hs 10 rfl strKind Tryd.underlying107 Tryd.underlying9 rfl rfl rfl ?_ | refine lw_mapUpdate (v := .pointer none) hs 10 rfl strKind Tryd.underlying107 Tryd.underlying9 rfl rfl rfl ?_ | refine lw_mapUpdate (v := .pointer (some _)) hs 11 rfl strKind Tryd.underlying107 Tryd.underlying9 rfl rfl rfl ?_ | refine lw_mapUpdate (v := .pointer none) hs 11 rfl strKind Tryd.underlying107 Tryd.underlying9 rfl rfl rfl ?_ | refine lw_mapUpdate (v := .pointer (some _)) hs 12 rfl strKind Tryd.underlying107 Tryd.underlying9 rfl rfl rfl ?_ | refine lw_mapUpdate (v := .pointer none) hs 12 rfl strKind Tryd.underlying107 Tryd.underlying9 rfl rfl rfl ?_ | refine lw_mapUpdate (v := .pointer (some _)) hs 13 rfl strKind Tryd.underlying107 Tryd.underlying9 rfl rfl rfl ?_ | refine lw_mapUpdate (v := .pointer none) hs 13 rfl strKind Tryd.underlying107 Tryd.underlying9 rfl rfl rfl ?_
      clear hs
      intro w hs
      try simp only [List.set_cons_succ, List.set_cons_zero] at hs
      refine lw_nil ?_
      refine res0  rfl ?_
      exact ⟨_, rfl, rfl, by have h1 := hs.tail; rw [← nmV_del, ← fptr_some hb, ← nmV_put] at h1; simp only [Chg.app]; rw [if_neg (show gn ≠ ByteArray.empty from g6)]; exact h1⟩
    · intro h6
      have g6 := ne_f h6
      refine cw_skip ?_
      refine cw_seq ?_
      refine cw_region ?_
      first | refine lw_val rfl (run_fieldAddr (o' := 2) Tryd.underlying117 rfl sz112 rfl rfl rfl) ?_ | refine lw_val rfl (run_fieldAddr Tryd.underlying117 rfl sz112 rfl rfl rfl) ?_
      first | refine lw_val rfl (run_load Tryd.underlying112 rfl rfl (hs.cellAt 0 rfl rfl)) ?_ | refine lw_val rfl (run_load Tryd.underlying112 rfl rfl (hs.cellAt 1 rfl rfl)) ?_ | refine lw_val rfl (run_load Tryd.underlying112 rfl rfl (hs.cellAt 2 rfl rfl)) ?_ | refine lw_val rfl (run_load Tryd.underlying112 rfl rfl (hs.cellAt 3 rfl rfl)) ?_ | refine lw_val rfl (run_load Tryd.underlying112 rfl rfl (hs.cellAt 4 rfl rfl)) ?_ | refine lw_val rfl (run_load Tryd.underlying112 rfl rfl (hs.cellAt 5 rfl rfl)) ?_ | refine lw_val rfl (run_load Tryd.underlying112 rfl rfl (hs.cellAt 6 rfl rfl)) ?_ | refine lw_val rfl (run_load Tryd.underlying112 rfl rfl (hs.cellAt 7 rfl rfl)) ?_ | refine lw_val rfl (run_load Tryd.underlying112 rfl rfl (hs.cellAt 8 rfl rfl)) ?_ | refine lw_val rfl (run_load Tryd.underlying112 rfl rfl (hs.cellAt 9 rfl rfl)) ?_ | refine lw_val rfl (run_load Tryd.underlying112 rfl rfl (hs.cellAt 10 rfl rfl)) ?_ | refine lw_val rfl (run_load Tryd.underlying112 rfl rfl (hs.cellAt 11 rfl rfl)) ?_ | refine lw_val rfl (run_load Tryd.underlying112 rfl rfl (hs.cellAt 12 rfl rfl)) ?_ | refine lw_val rfl (run_load Tryd.underlying112 rfl rfl (hs.cellAt 13 rfl rfl)) ?_
      refine lw_val rfl (run_nepn Tryd.underlying112 rfl rfl) ?_
      refine lw_nil ?_
      refine cw_ift rfl rfl ?_
      refine cw_region ?_
      first | refine lw_val rfl (run_move (v := .map _) rfl) ?_
      first | refine lw_val rfl (run_fieldAddr (o' := 0) Tryd.underlying117 rfl sz9 rfl rfl rfl) ?_ | refine lw_val rfl (run_fieldAddr Tryd.underlying117 rfl sz9 rfl rfl rfl) ?_
      first | refine lw_val rfl (run_load Tryd.underlying9 rfl rfl (hs.cellAt 0 rfl rfl)) ?_ | refine lw_val rfl (run_load Tryd.underlying9 rfl rfl (hs.cellAt 1 rfl rfl)) ?_ | refine lw_val rfl (run_load Tryd.underlying9 rfl rfl (hs.cellAt 2 rfl rfl)) ?_ | refine lw_val rfl (run_load Tryd.underlying9 rfl rfl (hs.cellAt 3 rfl rfl)) ?_ | refine lw_val rfl (run_load Tryd.underlying9 rfl rfl (hs.cellAt 4 rfl rfl)) ?_ | refine lw_val rfl (run_load Tryd.underlying9 rfl rfl (hs.cellAt 5 rfl rfl)) ?_ | refine lw_val rfl (run_load Tryd.underlying9 rfl rfl (hs.cellAt 6 rfl rfl)) ?_ | refine lw_val rfl (run_load Tryd.underlying9 rfl rfl (hs.cellAt 7 rfl rfl)) ?_ | refine lw_val rfl (run_load Tryd.underlying9 rfl rfl (hs.cellAt 8 rfl rfl)) ?_ | refine lw_val rfl (run_load Tryd.underlying9 rfl rfl (hs.cellAt 9 rfl rfl)) ?_ | refine lw_val rfl (run_load Tryd.underlying9 rfl rfl (hs.cellAt 10 rfl rfl)) ?_ | refine lw_val rfl (run_load Tryd.underlying9 rfl rfl (hs.cellAt 11 rfl rfl)) ?_ | refine lw_val rfl (run_load Tryd.underlying9 rfl rfl (hs.cellAt 12 rfl rfl)) ?_ | refine lw_val rfl (run_load Tryd.underlying9 rfl rfl (hs.cellAt 13 rfl rfl)) ?_
      first | refine lw_val rfl (run_fieldAddr (o' := 2) Tryd.underlying117 rfl sz112 rfl rfl rfl) ?_ | refine lw_val rfl (run_fieldAddr Tryd.underlying117 rfl sz112 rfl rfl rfl) ?_
      first | refine lw_val rfl (run_load Tryd.underlying112 rfl rfl (hs.cellAt 0 rfl rfl)) ?_ | refine lw_val rfl (run_load Tryd.underlying112 rfl rfl (hs.cellAt 1 rfl rfl)) ?_ | refine lw_val rfl (run_load Tryd.underlying112 rfl rfl (hs.cellAt 2 rfl rfl)) ?_ | refine lw_val rfl (run_load Tryd.underlying112 rfl rfl (hs.cellAt 3 rfl rfl)) ?_ | refine lw_val rfl (run_load Tryd.underlying112 rfl rfl (hs.cellAt 4 rfl rfl)) ?_ | refine lw_val rfl (run_load Tryd.underlying112 rfl rfl (hs.cellAt 5 rfl rfl)) ?_ | refine lw_val rfl (run_load Tryd.underlying112 rfl rfl (hs.cellAt 6 rfl rfl)) ?_ | refine lw_val rfl (run_load Tryd.underlying112 rfl rfl (hs.cellAt 7 rfl rfl)) ?_ | refine lw_val rfl (run_load Tryd.underlying112 rfl rfl (hs.cellAt 8 rfl rfl)) ?_ | refine lw_val rfl (run_load Tryd.underlying112 rfl rfl (hs.cellAt 9 rfl rfl)) ?_ | refine lw_val rfl (run_load Tryd.underlying112 rfl rfl (hs.cellAt 10 rfl rfl)) ?_ | refine lw_val rfl (run_load Tryd.underlying112 rfl rfl (hs.cellAt 11 rfl rfl)) ?_ | refine lw_val rfl (run_load Tryd.underlying112 rfl rfl (hs.cellAt 12 rfl rfl)) ?_ | refine lw_val rfl (run_load Tryd.underlying112 rfl rfl (hs.cellAt 13 rfl rfl)) ?_
      first | refine lw_mapUpdate (v := .pointer (some _)) hs 0 rfl strKind Tryd.underlying107 Tryd.underlying9 rfl rfl rfl ?_ | refine lw_mapUpdate (v := .pointer none) hs 0 rfl strKind Tryd.underlying107 Tryd.underlying9 rfl rfl rfl ?_ | refine lw_mapUpdate (v := .pointer (some _)) hs 1 rfl strKind Tryd.underlying107 Tryd.underlying9 rfl rfl rfl ?_ | refine lw_mapUpdate (v := .pointer none) hs 1 rfl strKind Tryd.underlying107 Tryd.underlying9 rfl rfl rfl ?_ | refine lw_mapUpdate (v := .pointer (some _)) hs 2 rfl strKind Tryd.underlying107 Tryd.underlying9 rfl rfl rfl ?_ | refine lw_mapUpdate (v := .pointer none) hs 2 rfl strKind Tryd.underlying107 Tryd.underlying9 rfl rfl rfl ?_ | refine lw_mapUpdate (v := .pointer (some _)) hs 3 rfl strKind Tryd.underlying107 Tryd.underlying9 rfl rfl rfl ?_ | refine lw_mapUpdate (v := .pointer none) hs 3 rfl strKind Tryd.underlying107 Tryd.underlying9 rfl rfl rfl ?_ | refine lw_mapUpdate (v := .pointer (some _)) hs 4 rfl strKind Tryd.underlying107 Tryd.underlying9 rfl rfl rfl ?_ | refine lw_mapUpdate (v := .pointer none) hs 4 rfl strKind Tryd.underlying107 Tryd.underlying9 rfl rfl rfl ?_ | refine lw_mapUpdate (v := .pointer (some _)) hs 5 rfl strKind Tryd.underlying107 Tryd.underlying9 rfl rfl rfl ?_ | refine lw_mapUpdate (v := .pointer none) hs 5 rfl strKind Tryd.underlying107 Tryd.underlying9 rfl rfl rfl ?_ | refine lw_mapUpdate (v := .pointer (some _)) hs 6 rfl strKind Tryd.underlying107 Tryd.underlying9 rfl rfl rfl ?_ | refine lw_mapUpdate (v := .pointer none) hs 6 rfl strKind Tryd.underlying107 Tryd.underlying9 rfl rfl rfl ?_ | refine lw_mapUpdate (v := .pointer (some _)) hs 7 rfl strKind Tryd.underlying107 Tryd.underlying9 rfl rfl rfl ?_ | refine lw_mapUpdate (v := .pointer none) hs 7 rfl strKind Tryd.underlying107 Tryd.underlying9 rfl rfl rfl ?_ | refine lw_mapUpdate (v := .pointer (some _)) hs 8 rfl strKind Tryd.underlying107 Tryd.underlying9 rfl rfl rfl ?_ | refine lw_mapUpdate (v := .pointer none) hs 8 rfl strKind Tryd.underlying107 Tryd.underlying9 rfl rfl rfl ?_ | refine lw_mapUpdate (v := .pointer (some _)) hs 9 rfl strKind Tryd.underlying107 Tryd.underlying9 rfl rfl rfl ?_ | refine lw_mapUpdate (v := .pointer none) hs 9 rfl strKind Tryd.underlying107 Tryd.underlying9 rfl rfl rfl ?_ | refine lw_mapUpdate (v := .pointer (some _)) hs 10 rfl strKind Tryd.underlying107 Tryd.underlying9 rfl rfl rfl ?_ | refine lw_mapUpdate (v := .pointer none) hs 10 rfl strKind Tryd.underlying107 Tryd.underlying9 rfl rfl rfl ?_ | refine lw_mapUpdate (v := .pointer (some _)) hs 11 rfl strKind Tryd.underlying107 Tryd.underlying9 rfl rfl rfl ?_ | refine lw_mapUpdate (v := .pointer none) hs 11 rfl strKind Tryd.underlying107 Tryd.underlying9 rfl rfl rfl ?_ | refine lw_mapUpdate (v := .pointer (some _)) hs 12 rfl strKind Tryd.underlying107 Tryd.underlying9 rfl rfl rfl ?_ | refine lw_mapUpdate (v := .pointer none) hs 12 rfl strKind Tryd.underlying107 Tryd.underlying9 rfl rfl rfl ?_ | refine lw_mapUpdate (v := .pointer (some _)) hs 13 rfl strKind Tryd.underlying107 Tryd.underlying9 rfl rfl rfl ?_ | refine lw_mapUpdate (v := .pointer none) hs 13 rfl strKind Tryd.underlying107 Tryd.underlying9 rfl rfl rfl ?_
      clear hs
      intro w hs
      try simp only [List.set_cons_succ, List.set_cons_zero] at hs
      refine lw_nil ?_
      refine res0  rfl ?_
      exact ⟨_, rfl, rfl, by have h1 := hs.tail; rw [← fptr_some hb, ← nmV_put] at h1; simp only [Chg.app]; rw [if_pos (show gn = ByteArray.empty from g6)]; exact h1⟩
theorem zsC : (Tryd.prog.info? 117).map (fun i => (i.zero, i.size)) = some (some (.agg #[.string ByteArray.empty, .string ByteArray.empty, .pointer none]), 3) := by
  have h := in117
  obtain ⟨i, h1, h2⟩ := Option.map_eq_some_iff.1 h
  simp only [Prod.mk.injEq] at h2
  rw [h1, Option.map_some, h2.1, h2.2.1]
theorem row_form {ptr : List (Nat × Nat)} {c : Chg} (hp : ∀ i, c.f = some i → ∃ b, aget ptr i = some b) : ∃ P, chgV ptr c = [.string c.name, .string c.gone, P] ∧ P.oneCell' = true := by
  unfold chgV
  cases hf : c.f with
  | none => exact ⟨_, rfl, rfl⟩
  | some i => obtain ⟨b, hb⟩ := hp i hf; exact ⟨_, rfl, by simp [fptr, hb, Value.oneCell']⟩
theorem change_sl (hc : d.calls < 1000000000) (hn : d.changes.length < 1000000000) (hs : Mem g w (diskParts p d mn mk sa sc ptr ++ L)) (c : Chg) (hp : ∀ i, c.f = some i → ∃ b, aget ptr i = some b) {row : List Value} (hrow : chgV ptr c = row) : Calls Tryd.prog 78 #[.pointer (some ⟨p, 0, none⟩), .agg row.toArray] w (Ret fun v w' => v = .tuple #[] ∧ ∃ sa' sc', Mem g w' (diskParts p (d.change c) mn mk sa' sc' ptr ++ L)) := by
  subst hrow
  obtain ⟨P, hrow, hP⟩ := row_form hp
  rw [hrow]
  refine calls_cw Tryd.func78 rfl rfl ?_
  skip
  refine cw_seq ?_
  refine cw_region ?_
  refine lw_box (v := .agg _) hs rfl rfl ?_
  clear hs
  intro b3 w hs
  refine lw_nil ?_
  refine cw_seq ?_
  refine cw_drawS mixes (hs.drop 2) ?_
  intro w tr hK
  replace hs := tr _ hs
  clear tr
  first | refine aw_take 0 rfl (by kernel_rfl) (by kernel_rfl) (by kernel_rfl) rfl (fun w hs => run_move (v := .pointer (some _)) rfl) hK ?_ | refine aw_take 0 rfl (by kernel_rfl) (by kernel_rfl) (by kernel_rfl) rfl (fun w hs => run_move (v := .pointer none) rfl) hK ?_
  refine aw_take 1 rfl (by kernel_rfl) (by kernel_rfl) (by kernel_rfl) rfl (fun w hs => run_nilCheckP rfl) hK ?_
  first | refine aw_take 2 rfl (by kernel_rfl) (by kernel_rfl) (by kernel_rfl) rfl (fun w hs => run_fieldAddr (o' := 1) Tryd.underlying110 rfl sz107 rfl rfl rfl) hK ?_ | refine aw_take 2 rfl (by kernel_rfl) (by kernel_rfl) (by kernel_rfl) rfl (fun w hs => run_fieldAddr Tryd.underlying110 rfl sz107 rfl rfl rfl) hK ?_
  first | refine aw_take 3 rfl (by kernel_rfl) (by kernel_rfl) (by kernel_rfl) rfl (fun w hs => run_load Tryd.underlying107 rfl rfl (hs.cellAt 0 rfl rfl)) hK ?_ | refine aw_take 3 rfl (by kernel_rfl) (by kernel_rfl) (by kernel_rfl) rfl (fun w hs => run_load Tryd.underlying107 rfl rfl (hs.cellAt 1 rfl rfl)) hK ?_ | refine aw_take 3 rfl (by kernel_rfl) (by kernel_rfl) (by kernel_rfl) rfl (fun w hs => run_load Tryd.underlying107 rfl rfl (hs.cellAt 2 rfl rfl)) hK ?_ | refine aw_take 3 rfl (by kernel_rfl) (by kernel_rfl) (by kernel_rfl) rfl (fun w hs => run_load Tryd.underlying107 rfl rfl (hs.cellAt 3 rfl rfl)) hK ?_ | refine aw_take 3 rfl (by kernel_rfl) (by kernel_rfl) (by kernel_rfl) rfl (fun w hs => run_load Tryd.underlying107 rfl rfl (hs.cellAt 4 rfl rfl)) hK ?_ | refine aw_take 3 rfl (by kernel_rfl) (by kernel_rfl) (by kernel_rfl) rfl (fun w hs => run_load Tryd.underlying107 rfl rfl (hs.cellAt 5 rfl rfl)) hK ?_ | refine aw_take 3 rfl (by kernel_rfl) (by kernel_rfl) (by kernel_rfl) rfl (fun w hs => run_load Tryd.underlying107 rfl rfl (hs.cellAt 6 rfl rfl)) hK ?_ | refine aw_take 3 rfl (by kernel_rfl) (by kernel_rfl) (by kernel_rfl) rfl (fun w hs => run_load Tryd.underlying107 rfl rfl (hs.cellAt 7 rfl rfl)) hK ?_ | refine aw_take 3 rfl (by kernel_rfl) (by kernel_rfl) (by kernel_rfl) rfl (fun w hs => run_load Tryd.underlying107 rfl rfl (hs.cellAt 8 rfl rfl)) hK ?_ | refine aw_take 3 rfl (by kernel_rfl) (by kernel_rfl) (by kernel_rfl) rfl (fun w hs => run_load Tryd.underlying107 rfl rfl (hs.cellAt 9 rfl rfl)) hK ?_ | refine aw_take 3 rfl (by kernel_rfl) (by kernel_rfl) (by kernel_rfl) rfl (fun w hs => run_load Tryd.underlying107 rfl rfl (hs.cellAt 10 rfl rfl)) hK ?_ | refine aw_take 3 rfl (by kernel_rfl) (by kernel_rfl) (by kernel_rfl) rfl (fun w hs => run_load Tryd.underlying107 rfl rfl (hs.cellAt 11 rfl rfl)) hK ?_ | refine aw_take 3 rfl (by kernel_rfl) (by kernel_rfl) (by kernel_rfl) rfl (fun w hs => run_load Tryd.underlying107 rfl rfl (hs.cellAt 12 rfl rfl)) hK ?_ | refine aw_take 3 rfl (by kernel_rfl) (by kernel_rfl) (by kernel_rfl) rfl (fun w hs => run_load Tryd.underlying107 rfl rfl (hs.cellAt 13 rfl rfl)) hK ?_
  first | refine aw_take 4 rfl (by kernel_rfl) (by kernel_rfl) (by kernel_rfl) rfl (fun w hs => run_loadRow hs 0 rfl Tryd.underlying117 sz117 rfl) hK ?_ | refine aw_take 4 rfl (by kernel_rfl) (by kernel_rfl) (by kernel_rfl) rfl (fun w hs => run_loadRow hs 1 rfl Tryd.underlying117 sz117 rfl) hK ?_ | refine aw_take 4 rfl (by kernel_rfl) (by kernel_rfl) (by kernel_rfl) rfl (fun w hs => run_loadRow hs 2 rfl Tryd.underlying117 sz117 rfl) hK ?_ | refine aw_take 4 rfl (by kernel_rfl) (by kernel_rfl) (by kernel_rfl) rfl (fun w hs => run_loadRow hs 3 rfl Tryd.underlying117 sz117 rfl) hK ?_ | refine aw_take 4 rfl (by kernel_rfl) (by kernel_rfl) (by kernel_rfl) rfl (fun w hs => run_loadRow hs 4 rfl Tryd.underlying117 sz117 rfl) hK ?_ | refine aw_take 4 rfl (by kernel_rfl) (by kernel_rfl) (by kernel_rfl) rfl (fun w hs => run_loadRow hs 5 rfl Tryd.underlying117 sz117 rfl) hK ?_ | refine aw_take 4 rfl (by kernel_rfl) (by kernel_rfl) (by kernel_rfl) rfl (fun w hs => run_loadRow hs 6 rfl Tryd.underlying117 sz117 rfl) hK ?_ | refine aw_take 4 rfl (by kernel_rfl) (by kernel_rfl) (by kernel_rfl) rfl (fun w hs => run_loadRow hs 7 rfl Tryd.underlying117 sz117 rfl) hK ?_ | refine aw_take 4 rfl (by kernel_rfl) (by kernel_rfl) (by kernel_rfl) rfl (fun w hs => run_loadRow hs 8 rfl Tryd.underlying117 sz117 rfl) hK ?_ | refine aw_take 4 rfl (by kernel_rfl) (by kernel_rfl) (by kernel_rfl) rfl (fun w hs => run_loadRow hs 9 rfl Tryd.underlying117 sz117 rfl) hK ?_ | refine aw_take 4 rfl (by kernel_rfl) (by kernel_rfl) (by kernel_rfl) rfl (fun w hs => run_loadRow hs 10 rfl Tryd.underlying117 sz117 rfl) hK ?_ | refine aw_take 4 rfl (by kernel_rfl) (by kernel_rfl) (by kernel_rfl) rfl (fun w hs => run_loadRow hs 11 rfl Tryd.underlying117 sz117 rfl) hK ?_ | refine aw_take 4 rfl (by kernel_rfl) (by kernel_rfl) (by kernel_rfl) rfl (fun w hs => run_loadRow hs 12 rfl Tryd.underlying117 sz117 rfl) hK ?_ | refine aw_take 4 rfl (by kernel_rfl) (by kernel_rfl) (by kernel_rfl) rfl (fun w hs => run_loadRow hs 13 rfl Tryd.underlying117 sz117 rfl) hK ?_
  refine aw_ready [5] (by kernel_rfl) (by simp) ?_
  refine ⟨⟨_, rfl, ?_⟩, trivial⟩
  refine lw_call rfl en86 (apply_sl (hs.arr [2, 0, 1, 3, 4, 5] 6 (by decide)) c hp hrow) ?_
  clear hs
  rintro _ w ⟨rfl, hs⟩
  clear hK
  have hK := hs.tail
  refine lw_nil ⟨hK, ?_⟩
  refine aw_done (by kernel_rfl) ?_
  clear hK
  refine cw_seq ?_
  refine cw_drawS mixes ((hs.drop 4).drop 2) ?_
  intro w tr hK
  replace hs := tr _ hs
  clear tr
  first | refine aw_take 0 rfl (by kernel_rfl) (by kernel_rfl) (by kernel_rfl) rfl (fun w hs => run_move (v := .pointer (some _)) rfl) hK ?_ | refine aw_take 0 rfl (by kernel_rfl) (by kernel_rfl) (by kernel_rfl) rfl (fun w hs => run_move (v := .pointer none) rfl) hK ?_
  first | refine aw_take 1 rfl (by kernel_rfl) (by kernel_rfl) (by kernel_rfl) rfl (fun w hs => run_move (v := .pointer (some _)) rfl) hK ?_ | refine aw_take 1 rfl (by kernel_rfl) (by kernel_rfl) (by kernel_rfl) rfl (fun w hs => run_move (v := .pointer none) rfl) hK ?_
  refine aw_take 2 rfl (by kernel_rfl) (by kernel_rfl) (by kernel_rfl) rfl (fun w hs => run_nilCheckP rfl) hK ?_
  first | refine aw_take 3 rfl (by kernel_rfl) (by kernel_rfl) (by kernel_rfl) rfl (fun w hs => run_fieldAddr (o' := 3) Tryd.underlying110 rfl sz108 rfl rfl rfl) hK ?_ | refine aw_take 3 rfl (by kernel_rfl) (by kernel_rfl) (by kernel_rfl) rfl (fun w hs => run_fieldAddr Tryd.underlying110 rfl sz108 rfl rfl rfl) hK ?_
  first | refine aw_take 5 rfl (by kernel_rfl) (by kernel_rfl) (by kernel_rfl) rfl (fun w hs => run_loadRow hs 0 rfl Tryd.underlying117 sz117 rfl) hK ?_ | refine aw_take 5 rfl (by kernel_rfl) (by kernel_rfl) (by kernel_rfl) rfl (fun w hs => run_loadRow hs 1 rfl Tryd.underlying117 sz117 rfl) hK ?_ | refine aw_take 5 rfl (by kernel_rfl) (by kernel_rfl) (by kernel_rfl) rfl (fun w hs => run_loadRow hs 2 rfl Tryd.underlying117 sz117 rfl) hK ?_ | refine aw_take 5 rfl (by kernel_rfl) (by kernel_rfl) (by kernel_rfl) rfl (fun w hs => run_loadRow hs 3 rfl Tryd.underlying117 sz117 rfl) hK ?_ | refine aw_take 5 rfl (by kernel_rfl) (by kernel_rfl) (by kernel_rfl) rfl (fun w hs => run_loadRow hs 4 rfl Tryd.underlying117 sz117 rfl) hK ?_ | refine aw_take 5 rfl (by kernel_rfl) (by kernel_rfl) (by kernel_rfl) rfl (fun w hs => run_loadRow hs 5 rfl Tryd.underlying117 sz117 rfl) hK ?_ | refine aw_take 5 rfl (by kernel_rfl) (by kernel_rfl) (by kernel_rfl) rfl (fun w hs => run_loadRow hs 6 rfl Tryd.underlying117 sz117 rfl) hK ?_ | refine aw_take 5 rfl (by kernel_rfl) (by kernel_rfl) (by kernel_rfl) rfl (fun w hs => run_loadRow hs 7 rfl Tryd.underlying117 sz117 rfl) hK ?_ | refine aw_take 5 rfl (by kernel_rfl) (by kernel_rfl) (by kernel_rfl) rfl (fun w hs => run_loadRow hs 8 rfl Tryd.underlying117 sz117 rfl) hK ?_ | refine aw_take 5 rfl (by kernel_rfl) (by kernel_rfl) (by kernel_rfl) rfl (fun w hs => run_loadRow hs 9 rfl Tryd.underlying117 sz117 rfl) hK ?_ | refine aw_take 5 rfl (by kernel_rfl) (by kernel_rfl) (by kernel_rfl) rfl (fun w hs => run_loadRow hs 10 rfl Tryd.underlying117 sz117 rfl) hK ?_ | refine aw_take 5 rfl (by kernel_rfl) (by kernel_rfl) (by kernel_rfl) rfl (fun w hs => run_loadRow hs 11 rfl Tryd.underlying117 sz117 rfl) hK ?_ | refine aw_take 5 rfl (by kernel_rfl) (by kernel_rfl) (by kernel_rfl) rfl (fun w hs => run_loadRow hs 12 rfl Tryd.underlying117 sz117 rfl) hK ?_ | refine aw_take 5 rfl (by kernel_rfl) (by kernel_rfl) (by kernel_rfl) rfl (fun w hs => run_loadRow hs 13 rfl Tryd.underlying117 sz117 rfl) hK ?_
  refine aw_ready [4, 6] (by kernel_rfl) (by simp) ?_
  refine ⟨⟨_, rfl, ?_⟩, ⟨_, rfl, ?_⟩, trivial⟩
  · skip
    first | refine lw_val rfl (run_load Tryd.underlying108 rfl rfl (hs.cellAt 0 rfl rfl)) ?_ | refine lw_val rfl (run_load Tryd.underlying108 rfl rfl (hs.cellAt 1 rfl rfl)) ?_ | refine lw_val rfl (run_load Tryd.underlying108 rfl rfl (hs.cellAt 2 rfl rfl)) ?_ | refine lw_val rfl (run_load Tryd.underlying108 rfl rfl (hs.cellAt 3 rfl rfl)) ?_ | refine lw_val rfl (run_load Tryd.underlying108 rfl rfl (hs.cellAt 4 rfl rfl)) ?_ | refine lw_val rfl (run_load Tryd.underlying108 rfl rfl (hs.cellAt 5 rfl rfl)) ?_ | refine lw_val rfl (run_load Tryd.underlying108 rfl rfl (hs.cellAt 6 rfl rfl)) ?_ | refine lw_val rfl (run_load Tryd.underlying108 rfl rfl (hs.cellAt 7 rfl rfl)) ?_ | refine lw_val rfl (run_load Tryd.underlying108 rfl rfl (hs.cellAt 8 rfl rfl)) ?_ | refine lw_val rfl (run_load Tryd.underlying108 rfl rfl (hs.cellAt 9 rfl rfl)) ?_ | refine lw_val rfl (run_load Tryd.underlying108 rfl rfl (hs.cellAt 10 rfl rfl)) ?_ | refine lw_val rfl (run_load Tryd.underlying108 rfl rfl (hs.cellAt 11 rfl rfl)) ?_ | refine lw_val rfl (run_load Tryd.underlying108 rfl rfl (hs.cellAt 12 rfl rfl)) ?_ | refine lw_val rfl (run_load Tryd.underlying108 rfl rfl (hs.cellAt 13 rfl rfl)) ?_
    clear hK
    have hK := (hs.drop 4).drop 2
    refine lw_nil ⟨hK, ?_⟩
    refine aw_ready [6] (by kernel_rfl) (by simp) ?_
    refine ⟨⟨_, rfl, ?_⟩, trivial⟩
    refine lw_buildRow hs rfl (row := [.string c.name, .string c.gone, P]) Tryd.underlying108 zsC rfl (by simp [Instr.fill, Value.cells, Array.range_succ, show Array.range 0 = #[] from by simp]) (by decide) (by decide) ?_
    clear hs
    intro b16 w hs
    clear hK
    have hK := (hs.tail.drop 4).drop 2
    refine lw_nil ⟨hK, ?_⟩
    refine aw_ready [7] (by kernel_rfl) (by simp) ?_
    refine ⟨⟨_, rfl, ?_⟩, trivial⟩
    refine lw_appendRow hs rfl 5 0 rfl rfl Tryd.underlying108 Tryd.underlying108 in117 rfl rfl (by simp only [List.all_cons, List.all_nil, hP]; rfl) rfl rfl (by simp only [List.length_map]; omega) (by simp only [List.length_map]; omega) ?_
    clear hs
    intro a17 c17 w hs
    simp only [List.set_cons_succ, List.set_cons_zero] at hs
    clear hK
    have hK := (hs.tail.drop 4).drop 2
    refine lw_nil ⟨hK, ?_⟩
    refine aw_take 8 rfl (by kernel_rfl) (by kernel_rfl) (by kernel_rfl) rfl (fun w hs => run_nilCheckP rfl) hK ?_
    first | refine aw_take 9 rfl (by kernel_rfl) (by kernel_rfl) (by kernel_rfl) rfl (fun w hs => run_fieldAddr (o' := 3) Tryd.underlying110 rfl sz108 rfl rfl rfl) hK ?_ | refine aw_take 9 rfl (by kernel_rfl) (by kernel_rfl) (by kernel_rfl) rfl (fun w hs => run_fieldAddr Tryd.underlying110 rfl sz108 rfl rfl rfl) hK ?_
    refine aw_ready [10] (by kernel_rfl) (by simp) ?_
    refine ⟨⟨_, rfl, ?_⟩, trivial⟩
    first | refine lw_store (v := .slice _ _ _) hs 0 rfl sz108 rfl rfl rfl rfl ?_ | refine lw_store (v := .slice _ _ _) hs 1 rfl sz108 rfl rfl rfl rfl ?_ | refine lw_store (v := .slice _ _ _) hs 2 rfl sz108 rfl rfl rfl rfl ?_ | refine lw_store (v := .slice _ _ _) hs 3 rfl sz108 rfl rfl rfl rfl ?_ | refine lw_store (v := .slice _ _ _) hs 4 rfl sz108 rfl rfl rfl rfl ?_ | refine lw_store (v := .slice _ _ _) hs 5 rfl sz108 rfl rfl rfl rfl ?_ | refine lw_store (v := .slice _ _ _) hs 6 rfl sz108 rfl rfl rfl rfl ?_ | refine lw_store (v := .slice _ _ _) hs 7 rfl sz108 rfl rfl rfl rfl ?_ | refine lw_store (v := .slice _ _ _) hs 8 rfl sz108 rfl rfl rfl rfl ?_ | refine lw_store (v := .slice _ _ _) hs 9 rfl sz108 rfl rfl rfl rfl ?_ | refine lw_store (v := .slice _ _ _) hs 10 rfl sz108 rfl rfl rfl rfl ?_ | refine lw_store (v := .slice _ _ _) hs 11 rfl sz108 rfl rfl rfl rfl ?_ | refine lw_store (v := .slice _ _ _) hs 12 rfl sz108 rfl rfl rfl rfl ?_ | refine lw_store (v := .slice _ _ _) hs 13 rfl sz108 rfl rfl rfl rfl ?_
    clear hs
    intro w hs
    try simp only [List.set_cons_succ, List.set_cons_zero] at hs
    clear hK
    have hK := (hs.tail.drop 4).drop 2
    refine lw_nil ⟨hK, ?_⟩
    refine aw_done (by kernel_rfl) ?_
    clear hK
    refine cw_region ?_
    first | refine lw_val rfl (run_move (v := .pointer (some _)) rfl) ?_ | refine lw_val rfl (run_move (v := .pointer none) rfl) ?_
    refine lw_val rfl (run_nilCheckP rfl) ?_
    first | refine lw_val rfl (run_fieldAddr (o' := 7) Tryd.underlying110 rfl sz3 rfl rfl rfl) ?_ | refine lw_val rfl (run_fieldAddr Tryd.underlying110 rfl sz3 rfl rfl rfl) ?_
    first | refine lw_val rfl (run_load Tryd.underlying3 rfl rfl (hs.cellAt 0 rfl rfl)) ?_ | refine lw_val rfl (run_load Tryd.underlying3 rfl rfl (hs.cellAt 1 rfl rfl)) ?_ | refine lw_val rfl (run_load Tryd.underlying3 rfl rfl (hs.cellAt 2 rfl rfl)) ?_ | refine lw_val rfl (run_load Tryd.underlying3 rfl rfl (hs.cellAt 3 rfl rfl)) ?_ | refine lw_val rfl (run_load Tryd.underlying3 rfl rfl (hs.cellAt 4 rfl rfl)) ?_ | refine lw_val rfl (run_load Tryd.underlying3 rfl rfl (hs.cellAt 5 rfl rfl)) ?_ | refine lw_val rfl (run_load Tryd.underlying3 rfl rfl (hs.cellAt 6 rfl rfl)) ?_ | refine lw_val rfl (run_load Tryd.underlying3 rfl rfl (hs.cellAt 7 rfl rfl)) ?_ | refine lw_val rfl (run_load Tryd.underlying3 rfl rfl (hs.cellAt 8 rfl rfl)) ?_ | refine lw_val rfl (run_load Tryd.underlying3 rfl rfl (hs.cellAt 9 rfl rfl)) ?_ | refine lw_val rfl (run_load Tryd.underlying3 rfl rfl (hs.cellAt 10 rfl rfl)) ?_ | refine lw_val rfl (run_load Tryd.underlying3 rfl rfl (hs.cellAt 11 rfl rfl)) ?_ | refine lw_val rfl (run_load Tryd.underlying3 rfl rfl (hs.cellAt 12 rfl rfl)) ?_ | refine lw_val rfl (run_load Tryd.underlying3 rfl rfl (hs.cellAt 13 rfl rfl)) ?_
    refine lw_val rfl (run_add64 rfl rfl rfl (inI (by omega) (by omega))) ?_
    refine lw_val rfl (run_nilCheckP rfl) ?_
    first | refine lw_val rfl (run_fieldAddr (o' := 7) Tryd.underlying110 rfl sz3 rfl rfl rfl) ?_ | refine lw_val rfl (run_fieldAddr Tryd.underlying110 rfl sz3 rfl rfl rfl) ?_
    first | refine lw_store (v := .int .i64 _) hs 0 rfl sz3 rfl rfl rfl rfl ?_ | refine lw_store (v := .int .i64 _) hs 1 rfl sz3 rfl rfl rfl rfl ?_ | refine lw_store (v := .int .i64 _) hs 2 rfl sz3 rfl rfl rfl rfl ?_ | refine lw_store (v := .int .i64 _) hs 3 rfl sz3 rfl rfl rfl rfl ?_ | refine lw_store (v := .int .i64 _) hs 4 rfl sz3 rfl rfl rfl rfl ?_ | refine lw_store (v := .int .i64 _) hs 5 rfl sz3 rfl rfl rfl rfl ?_ | refine lw_store (v := .int .i64 _) hs 6 rfl sz3 rfl rfl rfl rfl ?_ | refine lw_store (v := .int .i64 _) hs 7 rfl sz3 rfl rfl rfl rfl ?_ | refine lw_store (v := .int .i64 _) hs 8 rfl sz3 rfl rfl rfl rfl ?_ | refine lw_store (v := .int .i64 _) hs 9 rfl sz3 rfl rfl rfl rfl ?_ | refine lw_store (v := .int .i64 _) hs 10 rfl sz3 rfl rfl rfl rfl ?_ | refine lw_store (v := .int .i64 _) hs 11 rfl sz3 rfl rfl rfl rfl ?_ | refine lw_store (v := .int .i64 _) hs 12 rfl sz3 rfl rfl rfl rfl ?_ | refine lw_store (v := .int .i64 _) hs 13 rfl sz3 rfl rfl rfl rfl ?_
    clear hs
    intro w hs
    try simp only [List.set_cons_succ, List.set_cons_zero] at hs
    refine lw_nil ?_
    refine res0  rfl ?_
    refine ⟨_, rfl, rfl, a17, c17, ?_⟩
    have e1 : (d.change c).changes.length = (d.changes.map (chgV ptr)).length + 1 := by simp [Dk.change]
    have e2 : (d.change c).changes.map (chgV ptr) = d.changes.map (chgV ptr) ++ [[.string c.name, .string c.gone, P]] := by simp [Dk.change, hrow]
    simp only [diskParts, diskL, e1, e2]
    exact hs.arr [3, 1, 4, 5, 6] 7 (by decide)
  · skip
    refine lw_buildRow hs rfl (row := [.string c.name, .string c.gone, P]) Tryd.underlying108 zsC rfl (by simp [Instr.fill, Value.cells, Array.range_succ, show Array.range 0 = #[] from by simp]) (by decide) (by decide) ?_
    clear hs
    intro b16 w hs
    clear hK
    have hK := (hs.tail.drop 4).drop 2
    refine lw_nil ⟨hK, ?_⟩
    refine aw_ready [4] (by kernel_rfl) (by simp) ?_
    refine ⟨⟨_, rfl, ?_⟩, trivial⟩
    first | refine lw_val rfl (run_load Tryd.underlying108 rfl rfl (hs.cellAt 0 rfl rfl)) ?_ | refine lw_val rfl (run_load Tryd.underlying108 rfl rfl (hs.cellAt 1 rfl rfl)) ?_ | refine lw_val rfl (run_load Tryd.underlying108 rfl rfl (hs.cellAt 2 rfl rfl)) ?_ | refine lw_val rfl (run_load Tryd.underlying108 rfl rfl (hs.cellAt 3 rfl rfl)) ?_ | refine lw_val rfl (run_load Tryd.underlying108 rfl rfl (hs.cellAt 4 rfl rfl)) ?_ | refine lw_val rfl (run_load Tryd.underlying108 rfl rfl (hs.cellAt 5 rfl rfl)) ?_ | refine lw_val rfl (run_load Tryd.underlying108 rfl rfl (hs.cellAt 6 rfl rfl)) ?_ | refine lw_val rfl (run_load Tryd.underlying108 rfl rfl (hs.cellAt 7 rfl rfl)) ?_ | refine lw_val rfl (run_load Tryd.underlying108 rfl rfl (hs.cellAt 8 rfl rfl)) ?_ | refine lw_val rfl (run_load Tryd.underlying108 rfl rfl (hs.cellAt 9 rfl rfl)) ?_ | refine lw_val rfl (run_load Tryd.underlying108 rfl rfl (hs.cellAt 10 rfl rfl)) ?_ | refine lw_val rfl (run_load Tryd.underlying108 rfl rfl (hs.cellAt 11 rfl rfl)) ?_ | refine lw_val rfl (run_load Tryd.underlying108 rfl rfl (hs.cellAt 12 rfl rfl)) ?_ | refine lw_val rfl (run_load Tryd.underlying108 rfl rfl (hs.cellAt 13 rfl rfl)) ?_
    clear hK
    have hK := (hs.tail.drop 4).drop 2
    refine lw_nil ⟨hK, ?_⟩
    refine aw_ready [7] (by kernel_rfl) (by simp) ?_
    refine ⟨⟨_, rfl, ?_⟩, trivial⟩
    refine lw_appendRow hs rfl 5 0 rfl rfl Tryd.underlying108 Tryd.underlying108 in117 rfl rfl (by simp only [List.all_cons, List.all_nil, hP]; rfl) rfl rfl (by simp only [List.length_map]; omega) (by simp only [List.length_map]; omega) ?_
    clear hs
    intro a17 c17 w hs
    simp only [List.set_cons_succ, List.set_cons_zero] at hs
    clear hK
    have hK := (hs.tail.drop 4).drop 2
    refine lw_nil ⟨hK, ?_⟩
    refine aw_take 8 rfl (by kernel_rfl) (by kernel_rfl) (by kernel_rfl) rfl (fun w hs => run_nilCheckP rfl) hK ?_
    first | refine aw_take 9 rfl (by kernel_rfl) (by kernel_rfl) (by kernel_rfl) rfl (fun w hs => run_fieldAddr (o' := 3) Tryd.underlying110 rfl sz108 rfl rfl rfl) hK ?_ | refine aw_take 9 rfl (by kernel_rfl) (by kernel_rfl) (by kernel_rfl) rfl (fun w hs => run_fieldAddr Tryd.underlying110 rfl sz108 rfl rfl rfl) hK ?_
    refine aw_ready [10] (by kernel_rfl) (by simp) ?_
    refine ⟨⟨_, rfl, ?_⟩, trivial⟩
    first | refine lw_store (v := .slice _ _ _) hs 0 rfl sz108 rfl rfl rfl rfl ?_ | refine lw_store (v := .slice _ _ _) hs 1 rfl sz108 rfl rfl rfl rfl ?_ | refine lw_store (v := .slice _ _ _) hs 2 rfl sz108 rfl rfl rfl rfl ?_ | refine lw_store (v := .slice _ _ _) hs 3 rfl sz108 rfl rfl rfl rfl ?_ | refine lw_store (v := .slice _ _ _) hs 4 rfl sz108 rfl rfl rfl rfl ?_ | refine lw_store (v := .slice _ _ _) hs 5 rfl sz108 rfl rfl rfl rfl ?_ | refine lw_store (v := .slice _ _ _) hs 6 rfl sz108 rfl rfl rfl rfl ?_ | refine lw_store (v := .slice _ _ _) hs 7 rfl sz108 rfl rfl rfl rfl ?_ | refine lw_store (v := .slice _ _ _) hs 8 rfl sz108 rfl rfl rfl rfl ?_ | refine lw_store (v := .slice _ _ _) hs 9 rfl sz108 rfl rfl rfl rfl ?_ | refine lw_store (v := .slice _ _ _) hs 10 rfl sz108 rfl rfl rfl rfl ?_ | refine lw_store (v := .slice _ _ _) hs 11 rfl sz108 rfl rfl rfl rfl ?_ | refine lw_store (v := .slice _ _ _) hs 12 rfl sz108 rfl rfl rfl rfl ?_ | refine lw_store (v := .slice _ _ _) hs 13 rfl sz108 rfl rfl rfl rfl ?_
    clear hs
    intro w hs
    try simp only [List.set_cons_succ, List.set_cons_zero] at hs
    clear hK
    have hK := (hs.tail.drop 4).drop 2
    refine lw_nil ⟨hK, ?_⟩
    refine aw_done (by kernel_rfl) ?_
    clear hK
    refine cw_region ?_
    first | refine lw_val rfl (run_move (v := .pointer (some _)) rfl) ?_ | refine lw_val rfl (run_move (v := .pointer none) rfl) ?_
    refine lw_val rfl (run_nilCheckP rfl) ?_
    first | refine lw_val rfl (run_fieldAddr (o' := 7) Tryd.underlying110 rfl sz3 rfl rfl rfl) ?_ | refine lw_val rfl (run_fieldAddr Tryd.underlying110 rfl sz3 rfl rfl rfl) ?_
    first | refine lw_val rfl (run_load Tryd.underlying3 rfl rfl (hs.cellAt 0 rfl rfl)) ?_ | refine lw_val rfl (run_load Tryd.underlying3 rfl rfl (hs.cellAt 1 rfl rfl)) ?_ | refine lw_val rfl (run_load Tryd.underlying3 rfl rfl (hs.cellAt 2 rfl rfl)) ?_ | refine lw_val rfl (run_load Tryd.underlying3 rfl rfl (hs.cellAt 3 rfl rfl)) ?_ | refine lw_val rfl (run_load Tryd.underlying3 rfl rfl (hs.cellAt 4 rfl rfl)) ?_ | refine lw_val rfl (run_load Tryd.underlying3 rfl rfl (hs.cellAt 5 rfl rfl)) ?_ | refine lw_val rfl (run_load Tryd.underlying3 rfl rfl (hs.cellAt 6 rfl rfl)) ?_ | refine lw_val rfl (run_load Tryd.underlying3 rfl rfl (hs.cellAt 7 rfl rfl)) ?_ | refine lw_val rfl (run_load Tryd.underlying3 rfl rfl (hs.cellAt 8 rfl rfl)) ?_ | refine lw_val rfl (run_load Tryd.underlying3 rfl rfl (hs.cellAt 9 rfl rfl)) ?_ | refine lw_val rfl (run_load Tryd.underlying3 rfl rfl (hs.cellAt 10 rfl rfl)) ?_ | refine lw_val rfl (run_load Tryd.underlying3 rfl rfl (hs.cellAt 11 rfl rfl)) ?_ | refine lw_val rfl (run_load Tryd.underlying3 rfl rfl (hs.cellAt 12 rfl rfl)) ?_ | refine lw_val rfl (run_load Tryd.underlying3 rfl rfl (hs.cellAt 13 rfl rfl)) ?_
    refine lw_val rfl (run_add64 rfl rfl rfl (inI (by omega) (by omega))) ?_
    refine lw_val rfl (run_nilCheckP rfl) ?_
    first | refine lw_val rfl (run_fieldAddr (o' := 7) Tryd.underlying110 rfl sz3 rfl rfl rfl) ?_ | refine lw_val rfl (run_fieldAddr Tryd.underlying110 rfl sz3 rfl rfl rfl) ?_
    first | refine lw_store (v := .int .i64 _) hs 0 rfl sz3 rfl rfl rfl rfl ?_ | refine lw_store (v := .int .i64 _) hs 1 rfl sz3 rfl rfl rfl rfl ?_ | refine lw_store (v := .int .i64 _) hs 2 rfl sz3 rfl rfl rfl rfl ?_ | refine lw_store (v := .int .i64 _) hs 3 rfl sz3 rfl rfl rfl rfl ?_ | refine lw_store (v := .int .i64 _) hs 4 rfl sz3 rfl rfl rfl rfl ?_ | refine lw_store (v := .int .i64 _) hs 5 rfl sz3 rfl rfl rfl rfl ?_ | refine lw_store (v := .int .i64 _) hs 6 rfl sz3 rfl rfl rfl rfl ?_ | refine lw_store (v := .int .i64 _) hs 7 rfl sz3 rfl rfl rfl rfl ?_ | refine lw_store (v := .int .i64 _) hs 8 rfl sz3 rfl rfl rfl rfl ?_ | refine lw_store (v := .int .i64 _) hs 9 rfl sz3 rfl rfl rfl rfl ?_ | refine lw_store (v := .int .i64 _) hs 10 rfl sz3 rfl rfl rfl rfl ?_ | refine lw_store (v := .int .i64 _) hs 11 rfl sz3 rfl rfl rfl rfl ?_ | refine lw_store (v := .int .i64 _) hs 12 rfl sz3 rfl rfl rfl rfl ?_ | refine lw_store (v := .int .i64 _) hs 13 rfl sz3 rfl rfl rfl rfl ?_
    clear hs
    intro w hs
    try simp only [List.set_cons_succ, List.set_cons_zero] at hs
    refine lw_nil ?_
    refine res0  rfl ?_
    refine ⟨_, rfl, rfl, a17, c17, ?_⟩
    have e1 : (d.change c).changes.length = (d.changes.map (chgV ptr)).length + 1 := by simp [Dk.change]
    have e2 : (d.change c).changes.map (chgV ptr) = d.changes.map (chgV ptr) ++ [[.string c.name, .string c.gone, P]] := by simp [Dk.change, hrow]
    simp only [diskParts, diskL, e1, e2]
    exact hs.arr [3, 1, 4, 5, 6] 7 (by decide)
end Go.Proofs.YtmnfehbnjgmgjaaDoor
