/- What an error is as plain data: with a place, too. -/
import Derived.Test.YtmnfehbnjgmgjaaDoorVr
namespace Go.Proofs.YtmnfehbnjgmgjaaDoor
set_option linter.all false
open Go.RowKit
attribute [local irreducible] errV
variable {g w : World} {L M : List HP} {ad : Nat → Addr}

theorem sentinel_sl (hA : ErrA ad g) (hs : Mem g w L) {c : Nat} (hc : c ∈ allCodes) : Calls Tryd.prog 102 #[errV ad c] w (Ret fun v w' => v = .int .i64 c ∧ Mem g w' L) := by
  have h := sentinel_any (hA.atW hs) hs.size hc
  rw [← errV_pos ad (hA.pos c hc)] at h
  exact hs.calls h
def faultV (c : Int) (p : Bool) (q : Int) : Value := .agg #[.int .i64 c, .bool p, .int .i64 q]
theorem bare_sl (hs : Mem g w L) (c : Int) : Calls Tryd.prog 82 #[.int .i64 c] w (Ret fun v w' => v = faultV c false 0 ∧ Mem g w' L) := hs.calls (bare_any c w)
theorem placed_sl (hs : Mem g w L) {c : Int} (hc : c ≠ 0) (q : Int) : Calls Tryd.prog 100 #[.int .i64 c, .int .i64 q] w (Ret fun v w' => v = faultV c true q ∧ Mem g w' L) := by
  refine calls_cw Tryd.func100 rfl rfl ?_
  skip
  refine cw_seq ?_
  refine cw_region ?_
  refine lw_alloc hs rfl ze35 ?_
  clear hs
  intro b4 w hs
  try simp only [List.set_cons_succ, List.set_cons_zero] at hs
  refine lw_nil ?_
  refine cw_seq ?_
  refine cw_seq ?_
  refine cw_region ?_
  first | refine lw_val rfl (run_move (v := .int .i64 _) rfl) ?_
  refine lw_val rfl (run_eqi rfl rfl) ?_
  refine lw_nil ?_
  refine cw_iff rfl (decide_eq_false hc) ?_
  refine cw_skip ?_
  refine cw_seq ?_
  refine cw_region ?_
  first | refine lw_val rfl (run_move (v := .int .i64 _) rfl) ?_
  first | refine lw_val rfl (run_move (v := .int .i64 _) rfl) ?_
  refine lw_val rfl (run_buildF ([.int .i64 c, .bool true, .int .i64 q]) Tryd.underlying35 ze35 pl35 rfl (by simp [Value.cells]) rfl rfl) ?_
  first | refine lw_storeRow hs 0 rfl rfl rfl sz35 rfl rfl ?_ | refine lw_storeRow hs 1 rfl rfl rfl sz35 rfl rfl ?_ | refine lw_storeRow hs 2 rfl rfl rfl sz35 rfl rfl ?_ | refine lw_storeRow hs 3 rfl rfl rfl sz35 rfl rfl ?_ | refine lw_storeRow hs 4 rfl rfl rfl sz35 rfl rfl ?_ | refine lw_storeRow hs 5 rfl rfl rfl sz35 rfl rfl ?_ | refine lw_storeRow hs 6 rfl rfl rfl sz35 rfl rfl ?_ | refine lw_storeRow hs 7 rfl rfl rfl sz35 rfl rfl ?_ | refine lw_storeRow hs 8 rfl rfl rfl sz35 rfl rfl ?_ | refine lw_storeRow hs 9 rfl rfl rfl sz35 rfl rfl ?_ | refine lw_storeRow hs 10 rfl rfl rfl sz35 rfl rfl ?_ | refine lw_storeRow hs 11 rfl rfl rfl sz35 rfl rfl ?_ | refine lw_storeRow hs 12 rfl rfl rfl sz35 rfl rfl ?_ | refine lw_storeRow hs 13 rfl rfl rfl sz35 rfl rfl ?_
  clear hs
  intro w hs
  try simp only [List.set_cons_succ, List.set_cons_zero] at hs
  refine lw_nil ?_
  refine cw_ret ?_
  refine resG [(.cell 4 35, .agg _)] rfl ⟨⟨_, rfl, res_row hs 0 rfl Tryd.underlying35 sz35⟩, trivial⟩ ?_
  exact ⟨_, rfl, rfl, hs.tail⟩
theorem fault0_sl (hA : ErrA ad g) (hs : Mem g w L) {c : Nat} (hc : c = 0 ∨ c ∈ allCodes) : Calls Tryd.prog 69 #[errV ad c] w (Ret fun v w' => v = faultV c false 0 ∧ Mem g w' L) := by
  rcases hc with rfl | hc
  · rw [errV_zero]; exact hs.calls (fault_nil w)
  · have h := fault_err (hA.atW hs) hs.size hc
    rw [← errV_pos ad (hA.pos c hc)] at h
    exact hs.calls h
theorem run_assertAt {ρ : Env} {dst : Option Tmp} {ty : TypeId} {pos : String} {aft : Array Edge} {x : Operand} {b : Nat} (hx : ev ρ x = .iface 98 (.pointer (some ⟨b, 0, none⟩))) : (execOp (ev ρ) ⟨dst, .typeAssert x 30 98 true, ty, pos, aft, none⟩).run Tryd.prog w = .ok (.value (.tuple #[.pointer (some ⟨b, 0, none⟩), .bool true])) w := by
  have h : ∀ (v : Value) (w : World), (Instr.typeAssert (.iface 98 v) 30 98 true).run Tryd.prog w = .ok (.tuple #[v, .bool true]) w := fun _ _ => by kernel_rfl
  simp only [execOp, hx, Sem.run_bind, h, Result.andThen_ok, Sem.run_pure]
theorem faultAt_sl (hA : ErrA ad g) {c : Nat} {z : Int} {b : Nat} (hs : Mem g w (cells b [.int .i64 z, errV ad c] 100 :: L)) (hc : c ∈ allCodes) :
    Calls Tryd.prog 69 #[.iface 98 (.pointer (some ⟨b, 0, none⟩))] w (Ret fun v w' => v = faultV c true z ∧ Mem g w' (cells b [.int .i64 z, errV ad c] 100 :: L)) := by
  have hc0 := hA.pos c hc
  have he : eV ad 103 b = .iface 98 (.pointer (some ⟨b, 0, none⟩)) := eV_at (by decide) (by decide) b
  refine calls_cw Tryd.func69 rfl rfl ?_
  skip
  refine cw_seq ?_
  refine cw_region ?_
  refine lw_alloc hs rfl ze35 ?_
  clear hs
  intro b2 w hs
  try simp only [List.set_cons_succ, List.set_cons_zero] at hs
  refine lw_nil ?_
  refine cw_seq ?_
  refine cw_seq ?_
  refine cw_region ?_
  first | refine lw_val rfl (run_move (v := errV ad _) rfl) ?_ | refine lw_val rfl (run_move (v := .nilIface) rfl) ?_ | refine lw_val rfl (run_move (v := eV ad _ _) rfl) ?_ | refine lw_val rfl (run_move (v := .iface _ (.pointer (some _))) rfl) ?_
  refine lw_val rfl (run_eqE (ad := ad) (c := 103) (eb := b) he.symm) ?_
  refine lw_nil ?_
  refine cw_iff rfl (rfl) ?_
  refine cw_skip ?_
  refine cw_seq ?_
  refine cw_region ?_
  first | refine lw_val rfl (run_move (v := errV ad _) rfl) ?_ | refine lw_val rfl (run_move (v := .nilIface) rfl) ?_ | refine lw_val rfl (run_move (v := eV ad _ _) rfl) ?_ | refine lw_val rfl (run_move (v := .iface _ (.pointer (some _))) rfl) ?_
  refine lw_val rfl (run_assertAt rfl) ?_
  first | refine lw_val rfl (run_move (v := .tuple _) rfl) ?_
  first | refine lw_val rfl (run_extract (v := .pointer (some _)) rfl rfl) ?_ | refine lw_val rfl (run_extract (v := .pointer none) rfl rfl) ?_
  first | refine lw_val rfl (run_extract (v := .bool _) rfl rfl) ?_
  first | refine lw_val rfl (run_assign (v := .pointer (some _)) rfl) ?_ | refine lw_val rfl (run_assign (v := .pointer none) rfl) ?_
  first | refine lw_val rfl (run_assign (v := .bool _) rfl) ?_
  refine lw_nil ?_
  refine cw_seq ?_
  refine cw_seq ?_
  refine cw_region ?_
  first | refine lw_val rfl (run_move (v := .bool _) rfl) ?_
  refine lw_val rfl (run_not rfl) ?_
  refine lw_nil ?_
  refine cw_iff rfl (not_f (rfl)) ?_
  refine cw_skip ?_
  refine cw_seq ?_
  refine cw_seq ?_
  refine cw_region ?_
  first | refine lw_val rfl (run_move (v := .pointer (some _)) rfl) ?_ | refine lw_val rfl (run_move (v := .pointer none) rfl) ?_
  refine lw_val rfl (run_eqpn Tryd.underlying98 rfl rfl) ?_
  first | refine lw_val rfl (run_move (v := .bool _) rfl) ?_
  refine lw_on rfl rfl rfl ?_
  first | refine lw_val rfl (run_move (v := .pointer (some _)) rfl) ?_ | refine lw_val rfl (run_move (v := .pointer none) rfl) ?_
  refine lw_on rfl rfl rfl ?_
  refine lw_val rfl (run_nilCheckP rfl) ?_
  refine lw_on rfl rfl rfl ?_
  first | refine lw_val rfl (run_fieldAddr (o' := 1) Tryd.underlying100 rfl sz30 rfl rfl rfl) ?_ | refine lw_val rfl (run_fieldAddr Tryd.underlying100 rfl sz30 rfl rfl rfl) ?_
  refine lw_on rfl rfl rfl ?_
  first | refine lw_val rfl (run_load Tryd.underlying30 rfl rfl (hs.cellAt 0 rfl rfl)) ?_ | refine lw_val rfl (run_load Tryd.underlying30 rfl rfl (hs.cellAt 1 rfl rfl)) ?_ | refine lw_val rfl (run_load Tryd.underlying30 rfl rfl (hs.cellAt 2 rfl rfl)) ?_ | refine lw_val rfl (run_load Tryd.underlying30 rfl rfl (hs.cellAt 3 rfl rfl)) ?_ | refine lw_val rfl (run_load Tryd.underlying30 rfl rfl (hs.cellAt 4 rfl rfl)) ?_ | refine lw_val rfl (run_load Tryd.underlying30 rfl rfl (hs.cellAt 5 rfl rfl)) ?_ | refine lw_val rfl (run_load Tryd.underlying30 rfl rfl (hs.cellAt 6 rfl rfl)) ?_ | refine lw_val rfl (run_load Tryd.underlying30 rfl rfl (hs.cellAt 7 rfl rfl)) ?_ | refine lw_val rfl (run_load Tryd.underlying30 rfl rfl (hs.cellAt 8 rfl rfl)) ?_ | refine lw_val rfl (run_load Tryd.underlying30 rfl rfl (hs.cellAt 9 rfl rfl)) ?_ | refine lw_val rfl (run_load Tryd.underlying30 rfl rfl (hs.cellAt 10 rfl rfl)) ?_ | refine lw_val rfl (run_load Tryd.underlying30 rfl rfl (hs.cellAt 11 rfl rfl)) ?_ | refine lw_val rfl (run_load Tryd.underlying30 rfl rfl (hs.cellAt 12 rfl rfl)) ?_ | refine lw_val rfl (run_load Tryd.underlying30 rfl rfl (hs.cellAt 13 rfl rfl)) ?_
  refine lw_on rfl rfl rfl ?_
  first | refine lw_val rfl (run_eqerrn (ad := ad) rfl) ?_ | refine lw_val rfl (run_eqnn rfl) ?_ | refine lw_val rfl (run_eqE (ad := ad) rfl) ?_
  first | refine lw_val rfl (run_pickF (v := .bool _) rfl rfl rfl) ?_
  refine lw_nil ?_
  refine cw_iff rfl (decide_eq_false hc0) ?_
  refine cw_skip ?_
  refine cw_seq ?_
  refine cw_drawS mixes hs.tail ?_
  intro w tr hK
  replace hs := tr _ hs
  clear tr
  first | refine aw_take 0 rfl (by kernel_rfl) (by kernel_rfl) (by kernel_rfl) rfl (fun w hs => run_move (v := .pointer (some _)) rfl) hK ?_ | refine aw_take 0 rfl (by kernel_rfl) (by kernel_rfl) (by kernel_rfl) rfl (fun w hs => run_move (v := .pointer none) rfl) hK ?_
  refine aw_take 1 rfl (by kernel_rfl) (by kernel_rfl) (by kernel_rfl) rfl (fun w hs => run_nilCheckP rfl) hK ?_
  first | refine aw_take 2 rfl (by kernel_rfl) (by kernel_rfl) (by kernel_rfl) rfl (fun w hs => run_fieldAddr (o' := 1) Tryd.underlying100 rfl sz30 rfl rfl rfl) hK ?_ | refine aw_take 2 rfl (by kernel_rfl) (by kernel_rfl) (by kernel_rfl) rfl (fun w hs => run_fieldAddr Tryd.underlying100 rfl sz30 rfl rfl rfl) hK ?_
  first | refine aw_take 3 rfl (by kernel_rfl) (by kernel_rfl) (by kernel_rfl) rfl (fun w hs => run_load Tryd.underlying30 rfl rfl (hs.cellAt 0 rfl rfl)) hK ?_ | refine aw_take 3 rfl (by kernel_rfl) (by kernel_rfl) (by kernel_rfl) rfl (fun w hs => run_load Tryd.underlying30 rfl rfl (hs.cellAt 1 rfl rfl)) hK ?_ | refine aw_take 3 rfl (by kernel_rfl) (by kernel_rfl) (by kernel_rfl) rfl (fun w hs => run_load Tryd.underlying30 rfl rfl (hs.cellAt 2 rfl rfl)) hK ?_ | refine aw_take 3 rfl (by kernel_rfl) (by kernel_rfl) (by kernel_rfl) rfl (fun w hs => run_load Tryd.underlying30 rfl rfl (hs.cellAt 3 rfl rfl)) hK ?_ | refine aw_take 3 rfl (by kernel_rfl) (by kernel_rfl) (by kernel_rfl) rfl (fun w hs => run_load Tryd.underlying30 rfl rfl (hs.cellAt 4 rfl rfl)) hK ?_ | refine aw_take 3 rfl (by kernel_rfl) (by kernel_rfl) (by kernel_rfl) rfl (fun w hs => run_load Tryd.underlying30 rfl rfl (hs.cellAt 5 rfl rfl)) hK ?_ | refine aw_take 3 rfl (by kernel_rfl) (by kernel_rfl) (by kernel_rfl) rfl (fun w hs => run_load Tryd.underlying30 rfl rfl (hs.cellAt 6 rfl rfl)) hK ?_ | refine aw_take 3 rfl (by kernel_rfl) (by kernel_rfl) (by kernel_rfl) rfl (fun w hs => run_load Tryd.underlying30 rfl rfl (hs.cellAt 7 rfl rfl)) hK ?_ | refine aw_take 3 rfl (by kernel_rfl) (by kernel_rfl) (by kernel_rfl) rfl (fun w hs => run_load Tryd.underlying30 rfl rfl (hs.cellAt 8 rfl rfl)) hK ?_ | refine aw_take 3 rfl (by kernel_rfl) (by kernel_rfl) (by kernel_rfl) rfl (fun w hs => run_load Tryd.underlying30 rfl rfl (hs.cellAt 9 rfl rfl)) hK ?_ | refine aw_take 3 rfl (by kernel_rfl) (by kernel_rfl) (by kernel_rfl) rfl (fun w hs => run_load Tryd.underlying30 rfl rfl (hs.cellAt 10 rfl rfl)) hK ?_ | refine aw_take 3 rfl (by kernel_rfl) (by kernel_rfl) (by kernel_rfl) rfl (fun w hs => run_load Tryd.underlying30 rfl rfl (hs.cellAt 11 rfl rfl)) hK ?_ | refine aw_take 3 rfl (by kernel_rfl) (by kernel_rfl) (by kernel_rfl) rfl (fun w hs => run_load Tryd.underlying30 rfl rfl (hs.cellAt 12 rfl rfl)) hK ?_ | refine aw_take 3 rfl (by kernel_rfl) (by kernel_rfl) (by kernel_rfl) rfl (fun w hs => run_load Tryd.underlying30 rfl rfl (hs.cellAt 13 rfl rfl)) hK ?_
  first | refine aw_take 5 rfl (by kernel_rfl) (by kernel_rfl) (by kernel_rfl) rfl (fun w hs => run_move (v := .pointer (some _)) rfl) hK ?_ | refine aw_take 5 rfl (by kernel_rfl) (by kernel_rfl) (by kernel_rfl) rfl (fun w hs => run_move (v := .pointer none) rfl) hK ?_
  refine aw_take 6 rfl (by kernel_rfl) (by kernel_rfl) (by kernel_rfl) rfl (fun w hs => run_nilCheckP rfl) hK ?_
  first | refine aw_take 7 rfl (by kernel_rfl) (by kernel_rfl) (by kernel_rfl) rfl (fun w hs => run_fieldAddr (o' := 0) Tryd.underlying100 rfl sz3 rfl rfl rfl) hK ?_ | refine aw_take 7 rfl (by kernel_rfl) (by kernel_rfl) (by kernel_rfl) rfl (fun w hs => run_fieldAddr Tryd.underlying100 rfl sz3 rfl rfl rfl) hK ?_
  first | refine aw_take 8 rfl (by kernel_rfl) (by kernel_rfl) (by kernel_rfl) rfl (fun w hs => run_load Tryd.underlying3 rfl rfl (hs.cellAt 0 rfl rfl)) hK ?_ | refine aw_take 8 rfl (by kernel_rfl) (by kernel_rfl) (by kernel_rfl) rfl (fun w hs => run_load Tryd.underlying3 rfl rfl (hs.cellAt 1 rfl rfl)) hK ?_ | refine aw_take 8 rfl (by kernel_rfl) (by kernel_rfl) (by kernel_rfl) rfl (fun w hs => run_load Tryd.underlying3 rfl rfl (hs.cellAt 2 rfl rfl)) hK ?_ | refine aw_take 8 rfl (by kernel_rfl) (by kernel_rfl) (by kernel_rfl) rfl (fun w hs => run_load Tryd.underlying3 rfl rfl (hs.cellAt 3 rfl rfl)) hK ?_ | refine aw_take 8 rfl (by kernel_rfl) (by kernel_rfl) (by kernel_rfl) rfl (fun w hs => run_load Tryd.underlying3 rfl rfl (hs.cellAt 4 rfl rfl)) hK ?_ | refine aw_take 8 rfl (by kernel_rfl) (by kernel_rfl) (by kernel_rfl) rfl (fun w hs => run_load Tryd.underlying3 rfl rfl (hs.cellAt 5 rfl rfl)) hK ?_ | refine aw_take 8 rfl (by kernel_rfl) (by kernel_rfl) (by kernel_rfl) rfl (fun w hs => run_load Tryd.underlying3 rfl rfl (hs.cellAt 6 rfl rfl)) hK ?_ | refine aw_take 8 rfl (by kernel_rfl) (by kernel_rfl) (by kernel_rfl) rfl (fun w hs => run_load Tryd.underlying3 rfl rfl (hs.cellAt 7 rfl rfl)) hK ?_ | refine aw_take 8 rfl (by kernel_rfl) (by kernel_rfl) (by kernel_rfl) rfl (fun w hs => run_load Tryd.underlying3 rfl rfl (hs.cellAt 8 rfl rfl)) hK ?_ | refine aw_take 8 rfl (by kernel_rfl) (by kernel_rfl) (by kernel_rfl) rfl (fun w hs => run_load Tryd.underlying3 rfl rfl (hs.cellAt 9 rfl rfl)) hK ?_ | refine aw_take 8 rfl (by kernel_rfl) (by kernel_rfl) (by kernel_rfl) rfl (fun w hs => run_load Tryd.underlying3 rfl rfl (hs.cellAt 10 rfl rfl)) hK ?_ | refine aw_take 8 rfl (by kernel_rfl) (by kernel_rfl) (by kernel_rfl) rfl (fun w hs => run_load Tryd.underlying3 rfl rfl (hs.cellAt 11 rfl rfl)) hK ?_ | refine aw_take 8 rfl (by kernel_rfl) (by kernel_rfl) (by kernel_rfl) rfl (fun w hs => run_load Tryd.underlying3 rfl rfl (hs.cellAt 12 rfl rfl)) hK ?_ | refine aw_take 8 rfl (by kernel_rfl) (by kernel_rfl) (by kernel_rfl) rfl (fun w hs => run_load Tryd.underlying3 rfl rfl (hs.cellAt 13 rfl rfl)) hK ?_
  refine aw_ready [4] (by kernel_rfl) (by simp) ?_
  refine ⟨⟨_, rfl, ?_⟩, trivial⟩
  refine lw_call rfl en102 (sentinel_sl hA hs hc) ?_
  clear hs
  rintro _ w ⟨rfl, hs⟩
  clear hK
  have hK := hs.tail
  refine lw_nil ⟨hK, ?_⟩
  refine aw_ready [9] (by kernel_rfl) (by simp) ?_
  refine ⟨⟨_, rfl, ?_⟩, trivial⟩
  refine lw_call rfl en100 (placed_sl hs (c := c) (by omega) z) ?_
  clear hs
  rintro _ w ⟨rfl, hs⟩
  clear hK
  have hK := hs.tail
  refine lw_nil ⟨hK, ?_⟩
  refine aw_ready [10] (by kernel_rfl) (by simp) ?_
  refine ⟨⟨_, rfl, ?_⟩, trivial⟩
  first | refine lw_storeRow hs 0 rfl rfl rfl sz35 rfl rfl ?_ | refine lw_storeRow hs 1 rfl rfl rfl sz35 rfl rfl ?_ | refine lw_storeRow hs 2 rfl rfl rfl sz35 rfl rfl ?_ | refine lw_storeRow hs 3 rfl rfl rfl sz35 rfl rfl ?_ | refine lw_storeRow hs 4 rfl rfl rfl sz35 rfl rfl ?_ | refine lw_storeRow hs 5 rfl rfl rfl sz35 rfl rfl ?_ | refine lw_storeRow hs 6 rfl rfl rfl sz35 rfl rfl ?_ | refine lw_storeRow hs 7 rfl rfl rfl sz35 rfl rfl ?_ | refine lw_storeRow hs 8 rfl rfl rfl sz35 rfl rfl ?_ | refine lw_storeRow hs 9 rfl rfl rfl sz35 rfl rfl ?_ | refine lw_storeRow hs 10 rfl rfl rfl sz35 rfl rfl ?_ | refine lw_storeRow hs 11 rfl rfl rfl sz35 rfl rfl ?_ | refine lw_storeRow hs 12 rfl rfl rfl sz35 rfl rfl ?_ | refine lw_storeRow hs 13 rfl rfl rfl sz35 rfl rfl ?_
  clear hs
  intro w hs
  try simp only [List.set_cons_succ, List.set_cons_zero] at hs
  clear hK
  have hK := hs.tail
  refine lw_nil ⟨hK, ?_⟩
  refine aw_done (by kernel_rfl) ?_
  clear hK
  refine cw_ret ?_
  refine resG [(.cell 2 35, .agg _)] rfl ⟨⟨_, rfl, res_row hs 0 rfl Tryd.underlying35 sz35⟩, trivial⟩ ?_
  exact ⟨_, rfl, rfl, hs.tail⟩
end Go.Proofs.YtmnfehbnjgmgjaaDoor
