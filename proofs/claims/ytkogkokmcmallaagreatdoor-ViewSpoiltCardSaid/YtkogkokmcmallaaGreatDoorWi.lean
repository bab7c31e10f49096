/- slices.Contains at ints. -/
import Derived.Test.YtkogkokmcmallaaGreatDoorTx
namespace Go.Proofs.YtkogkokmcmallaaGreatDoor
set_option linter.all false
open Go.RowKit
attribute [local irreducible] errV
variable {g w : World} {L M : List HP} {ad : Nat → Addr} {p : Nat}

def hasI (l : List Int) (n : Int) : Bool := l.any fun x => decide (x = n)
theorem idxI_sl (hs : Mem g w L) {a : Option Addr} {n c : Nat} {l : List Int} (hr : Rd g L (.slice a n c) (intsL l)) (hn : n = l.length) (hlen : l.length ≤ 1000000) (y : Int) : Calls Tryz.prog 244 #[.slice a n c, .int .i64 y] w (Ret fun v w' => ∃ r : Int, (0 ≤ r ↔ hasI l y = true) ∧ v = .int .i64 r ∧ Mem g w' L) := by
  subst hn
  refine calls_cw Tryz.func244 rfl rfl ?_
  skip
  refine cw_seq ?_
  refine cw_region ?_
  first | refine lw_val rfl (run_assign (v := .int .i64 _) rfl) ?_
  refine lw_nil ?_
  refine cw_seq ?_
  refine cw_seq ?_
  refine cw_region ?_
  first | refine lw_val rfl (run_move (v := .slice _ _ _) rfl) ?_
  refine lw_val rfl (run_lenS Tryz.underlying22 rfl) ?_
  first | refine lw_val rfl (run_move (v := .int .i64 _) rfl) ?_
  refine lw_nil ?_
  refine cw_block ?_
  refine cw_loop (X := Nat) [4, 5, 8, 9, 10, 11, 12, 13, 14, 15, 16, 17, 18] (fun k => [(8, .int .i64 (k : Nat))]) (fun k w => k ≤ l.length ∧ hasI (l.take k) y = false ∧ Mem g w L) (fun k => l.length - k) (0) ?_ ?_ ?_
  · exact ⟨rfl, trivial⟩
  · exact ⟨Nat.zero_le _, rfl, hs⟩
  clear hs
  rintro x ξ w hI
  obtain ⟨hk, hq, hs⟩ := hI
  refine cw_seq ?_
  refine cw_region ?_
  refine lw_val rfl (run_lss rfl rfl) ?_
  refine lw_nil ?_
  refine cw_seq ?_
  refine cw_if rfl ?_ ?_
  · intro h9
    have g9 := of_decide_eq_true h9
    obtain ⟨z, hz⟩ : ∃ z, l[x]? = some z := ⟨_, List.getElem?_eq_getElem (by omega)⟩
    obtain ⟨b1, o1, rfl, _⟩ := hr.cells' hs (by rw [intsL_len]; omega)
    refine cw_skip ?_
    refine cw_seq ?_
    refine cw_block ?_
    refine cw_seq ?_
    refine cw_region ?_
    first | refine lw_val rfl (run_move (v := .int .i64 _) rfl) ?_
    first | refine lw_val rfl (run_assign (v := .int .i64 _) rfl) ?_
    refine lw_nil ?_
    refine cw_seq ?_
    refine cw_region ?_
    first | refine lw_val rfl (run_move (v := .int .i64 _) rfl) ?_
    first | refine lw_val rfl (run_move (v := .slice _ _ _) rfl) ?_
    first | refine lw_val rfl (run_move (v := .int .i64 _) rfl) ?_
    refine lw_val rfl (run_indexAddr Tryz.underlying22 sz3 rfl rfl rfl (by omega) rfl) ?_
    refine lw_val rfl (run_load Tryz.underlying3 rfl rfl (hr.cellAt hs (intsL_at hz))) ?_
    refine lw_val rfl (run_eqi rfl rfl) ?_
    refine lw_nil ?_
    refine cw_if rfl ?_ ?_
    · intro h16
      have g16 := of_decide_eq_true h16
      refine cw_seq ?_
      refine cw_region ?_
      first | refine lw_val rfl (run_move (v := .int .i64 _) rfl) ?_
      first | refine lw_val rfl (run_assign (v := .int .i64 _) rfl) ?_
      refine lw_nil ?_
      refine cw_ret ?_
      refine res1 (v := .int .i64 _) rfl rfl ?_
      exact ⟨_, rfl, (x : Nat), ⟨fun _ => List.any_eq_true.2 ⟨z, List.mem_of_getElem? hz, decide_eq_true g16.symm⟩, fun _ => by omega⟩, rfl, hs⟩
    · intro h16
      have g16 := of_decide_eq_false h16
      refine cw_skip ?_
      refine cw_region ?_
      refine lw_val rfl (run_add64 rfl rfl rfl (inI (by omega) (by omega))) ?_
      first | refine lw_val rfl (run_move (v := .int .i64 _) rfl) ?_
      refine lw_nil ?_
      exact ⟨x + 1, by omega, ⟨by omega, by rw [hasI, List.take_add_one, hz, List.any_append]; rw [hasI] at hq; rw [hq]; simp; exact fun e => g16 e.symm, hs⟩, ⟨rfl, trivial⟩, by repeat (first | exact Out.mix _ _ _ | refine Out.updo rfl ?_ | refine Out.upd rfl ?_ | refine Out.mixIn rfl ?_)⟩
  · intro h9
    have g9 := of_decide_eq_false h9
    refine cw_exit rfl ?_
    refine cw_seq ?_
    refine cw_region ?_
    first | refine lw_val rfl (run_assign (v := .int .i64 _) rfl) ?_
    refine lw_nil ?_
    refine cw_ret ?_
    refine res1 (v := .int .i64 _) rfl rfl ?_
    have e : x = l.length := by omega
    rw [e, List.take_length] at hq
    exact ⟨_, rfl, -1, ⟨fun h => by omega, fun h => by rw [hq] at h; cases h⟩, rfl, hs⟩
theorem conI_sl (hs : Mem g w L) {a : Option Addr} {n c : Nat} {l : List Int} (hr : Rd g L (.slice a n c) (intsL l)) (hn : n = l.length) (hlen : l.length ≤ 1000000) (y : Int) : Calls Tryz.prog 214 #[.slice a n c, .int .i64 y] w (Ret fun v w' => v = .bool (hasI l y) ∧ Mem g w' L) := by
  refine calls_cw Tryz.func214 rfl rfl ?_
  skip
  refine cw_seq ?_
  refine cw_region ?_
  first | refine lw_val rfl (run_assign (v := .bool _) rfl) ?_
  refine lw_nil ?_
  refine cw_seq ?_
  refine cw_region ?_
  first | refine lw_val rfl (run_move (v := .slice _ _ _) rfl) ?_
  first | refine lw_val rfl (run_move (v := .int .i64 _) rfl) ?_
  refine lw_call rfl en244 (idxI_sl hs hr hn hlen y) ?_
  clear hs
  rintro _ w ⟨r, hr2, rfl, hs⟩
  refine lw_val rfl (run_geq rfl rfl) ?_
  first | refine lw_val rfl (run_assign (v := .bool _) rfl) ?_
  refine lw_nil ?_
  refine cw_ret ?_
  refine res1 (v := .bool _) rfl rfl ?_
  exact ⟨_, rfl, ret_b (by cases h : hasI l y; exact decide_eq_false (fun h2 => by rw [h] at hr2; exact absurd (hr2.1 h2) (by decide)); exact decide_eq_true (hr2.2 h)), hs⟩
end Go.Proofs.YtkogkokmcmallaaGreatDoor
