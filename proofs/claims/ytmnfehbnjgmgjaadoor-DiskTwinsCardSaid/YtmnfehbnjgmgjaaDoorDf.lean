/- Chapter 4: the examples; what a test of an error tells. -/
import Derived.Test.YtmnfehbnjgmgjaaDoorDe
import Derived.Test.YtmnfehbnjgmgjaaDoorZc
namespace Go.Proofs.YtmnfehbnjgmgjaaDoor
set_option linter.all false
open Go.RowKit
attribute [local irreducible] errV
variable {g w : World} {L M : List HP} {ad : Nat → Addr} {p : Nat} {d : Dk}

theorem isA_sl (hE : ErrA ad g) (hs : Mem g w L) {d : Nat} (hd : d = 0 ∨ d ∈ allCodes) (c : Int) : Calls Tryd.prog 34 #[errV ad d, .int .i64 c] w (Ret fun v w' => v = .bool (decide ((d : Int) = c)) ∧ Mem g w' L) := by
  have := hs.calls (is_any (hE.atW hs) hs.size hd c)
  rw [int_beq] at this
  exact this
abbrev nm1 (c : UInt8) : ByteArray := ⟨#[c]⟩
theorem Mem.rdCells (hs : Mem g w L) (i : Nat) {v : Value} {l : List Value} (hi : L[i]? = some (rd v l)) : Rd g L v l := Rd.rd i hi
/-- The disk of the examples. -/
abbrev fD (kept : List (ByteArray × Nat)) (ch : List Chg) (calls : Nat) (b : List UInt8) (s : Nat) : Dk := ⟨100, [(nm1 97, 1)], kept, ch, 1, 0, false, calls, [(1, ⟨1, b, s⟩)]⟩
theorem first4_sl (hE : ErrK ad g) (hs : Mem g w L) : Calls Tryd.prog 48 #[] w (Ret fun v w' => v = .bool true ∧ Mem g w' L) := by
  refine calls_cw Tryd.func48 rfl rfl ?_
  skip
  refine cw_seq ?_
  refine cw_region ?_
  first | refine lw_val rfl (run_assign (v := .bool _) rfl) ?_
  refine lw_nil ?_
  refine cw_seq ?_
  refine cw_region ?_
  refine lw_call rfl en26 (newd_sl hs (r := 100) (by decide) (by decide)) ?_
  clear hs
  rintro _ w ⟨p, rfl, hs⟩
  first | refine lw_val rfl (run_move (v := .tuple _) rfl) ?_
  first | refine lw_val rfl (run_extract (v := .pointer (some _)) rfl rfl) ?_ | refine lw_val rfl (run_extract (v := .pointer none) rfl rfl) ?_
  first | refine lw_val rfl (run_extract (v := errV ad _) rfl rfl) ?_ | refine lw_val rfl (run_extract (v := .nilIface) rfl rfl) ?_ | refine lw_val rfl (run_extract (v := eV ad _ _) rfl rfl) ?_ | refine lw_val rfl (run_extract (v := .iface _ (.pointer (some _))) rfl rfl) ?_
  first | refine lw_val rfl (run_assign (v := .pointer (some _)) rfl) ?_ | refine lw_val rfl (run_assign (v := .pointer none) rfl) ?_
  first | refine lw_val rfl (run_assign (v := errV ad _) rfl) ?_ | refine lw_val rfl (run_assign (v := .nilIface) rfl) ?_ | refine lw_val rfl (run_assign (v := eV ad _ _) rfl) ?_ | refine lw_val rfl (run_assign (v := .iface _ (.pointer (some _))) rfl) ?_
  refine lw_nil ?_
  refine cw_seq ?_
  refine cw_seq ?_
  refine cw_region ?_
  first | refine lw_val rfl (run_move (v := .pointer (some _)) rfl) ?_ | refine lw_val rfl (run_move (v := .pointer none) rfl) ?_
  refine lw_val rfl (run_eqpn Tryd.underlying45 rfl rfl) ?_
  first | refine lw_val rfl (run_move (v := .bool _) rfl) ?_
  refine lw_on rfl rfl rfl ?_
  first | refine lw_val rfl (run_move (v := errV ad _) rfl) ?_ | refine lw_val rfl (run_move (v := .nilIface) rfl) ?_ | refine lw_val rfl (run_move (v := eV ad _ _) rfl) ?_ | refine lw_val rfl (run_move (v := .iface _ (.pointer (some _))) rfl) ?_
  refine lw_on rfl rfl rfl ?_
  first | refine lw_val rfl (run_neerrn (ad := ad) rfl) ?_ | refine lw_val rfl (run_nenn rfl) ?_ | refine lw_val rfl (run_neE (ad := ad) rfl) ?_
  first | refine lw_val rfl (run_pickF (v := .bool _) rfl rfl rfl) ?_
  first | refine lw_val rfl (run_move (v := .bool _) rfl) ?_
  refine lw_on rfl rfl (rfl) ?_
  first | refine lw_val rfl (run_move (v := .pointer (some _)) rfl) ?_ | refine lw_val rfl (run_move (v := .pointer none) rfl) ?_
  refine lw_on rfl rfl (rfl) ?_
  refine lw_call rfl en29 (create_sl hE hs (by decide) (nm1 97) (k := 0) (d2 := fD [] [⟨nm1 97, ByteArray.empty, some 1⟩] 1 [] 0) (by kernel_rfl)) ?_
  clear hs
  rintro _ w ⟨rfl, hs⟩
  refine lw_on rfl rfl (rfl) ?_
  first | refine lw_val rfl (run_neerrn (ad := ad) rfl) ?_ | refine lw_val rfl (run_nenn rfl) ?_ | refine lw_val rfl (run_neE (ad := ad) rfl) ?_
  first | refine lw_val rfl (run_pickF (v := .bool _) rfl (rfl) rfl) ?_
  first | refine lw_val rfl (run_move (v := .bool _) rfl) ?_
  refine lw_on rfl rfl (rfl) ?_
  first | refine lw_val rfl (run_move (v := .pointer (some _)) rfl) ?_ | refine lw_val rfl (run_move (v := .pointer none) rfl) ?_
  refine lw_on rfl rfl (rfl) ?_
  refine lw_buildSlice hs rfl ([.int .u8 120, .int .u8 121]) Tryd.underlying23 zs5 rfl (by simp [Value.cells]) rfl rfl rfl ?_
  clear hs
  intro b22 w hs
  try simp only [List.set_cons_succ, List.set_cons_zero] at hs
  refine lw_on rfl rfl (rfl) ?_
  refine lw_constBytes hs rfl 0 rfl rfl Tryd.underlying23 Tryd.underlying5 rfl ?_
  clear hs
  intro w hs
  try simp only [List.set_cons_succ, List.set_cons_zero] at hs
  refine lw_on rfl rfl (rfl) ?_
  refine lw_call rfl en30 (append_sl (d := fD [] [⟨nm1 97, ByteArray.empty, some 1⟩] 1 [] 0) (L := rd _ _ :: L) hE (hs.arr [1, 0] 2 (by decide)) (by decide) (nm1 97) (x := [120, 121]) (k := 0) (d2 := fD [] [⟨nm1 97, ByteArray.empty, some 1⟩] 2 [120, 121] 0) (Rd.rd 0 rfl) rfl (by decide) (by kernel_rfl)) ?_
  clear hs
  rintro _ w ⟨rfl, hs⟩
  replace hs := hs.drop 1
  refine lw_on rfl rfl (rfl) ?_
  first | refine lw_val rfl (run_neerrn (ad := ad) rfl) ?_ | refine lw_val rfl (run_nenn rfl) ?_ | refine lw_val rfl (run_neE (ad := ad) rfl) ?_
  first | refine lw_val rfl (run_pickF (v := .bool _) rfl (rfl) rfl) ?_
  first | refine lw_val rfl (run_move (v := .bool _) rfl) ?_
  refine lw_on rfl rfl (rfl) ?_
  first | refine lw_val rfl (run_move (v := .pointer (some _)) rfl) ?_ | refine lw_val rfl (run_move (v := .pointer none) rfl) ?_
  refine lw_on rfl rfl (rfl) ?_
  refine lw_call rfl en51 (sync_sl hE hs (by decide) (nm1 97) (k := 0) (d2 := fD [] [⟨nm1 97, ByteArray.empty, some 1⟩] 3 [120, 121] 2) (by kernel_rfl)) ?_
  clear hs
  rintro _ w ⟨rfl, hs⟩
  refine lw_on rfl rfl (rfl) ?_
  first | refine lw_val rfl (run_neerrn (ad := ad) rfl) ?_ | refine lw_val rfl (run_nenn rfl) ?_ | refine lw_val rfl (run_neE (ad := ad) rfl) ?_
  first | refine lw_val rfl (run_pickF (v := .bool _) rfl (rfl) rfl) ?_
  first | refine lw_val rfl (run_move (v := .bool _) rfl) ?_
  refine lw_on rfl rfl (rfl) ?_
  first | refine lw_val rfl (run_move (v := .pointer (some _)) rfl) ?_ | refine lw_val rfl (run_move (v := .pointer none) rfl) ?_
  refine lw_on rfl rfl (rfl) ?_
  refine lw_call rfl en52 (syncDir_sl hE hs (by decide) (k := 0) (d2 := fD [(nm1 97, 1)] [] 4 [120, 121] 2) (by kernel_rfl)) ?_
  clear hs
  rintro _ w ⟨rfl, hs⟩
  refine lw_on rfl rfl (rfl) ?_
  first | refine lw_val rfl (run_neerrn (ad := ad) rfl) ?_ | refine lw_val rfl (run_nenn rfl) ?_ | refine lw_val rfl (run_neE (ad := ad) rfl) ?_
  first | refine lw_val rfl (run_pickF (v := .bool _) rfl (rfl) rfl) ?_
  first | refine lw_val rfl (run_move (v := .bool _) rfl) ?_
  refine lw_on rfl rfl (rfl) ?_
  first | refine lw_val rfl (run_move (v := .pointer (some _)) rfl) ?_ | refine lw_val rfl (run_move (v := .pointer none) rfl) ?_
  refine lw_on rfl rfl (rfl) ?_
  refine lw_buildSlice hs rfl ([.int .u8 122]) Tryd.underlying23 zs5 rfl (by simp [Value.cells]) rfl rfl rfl ?_
  clear hs
  intro b39 w hs
  try simp only [List.set_cons_succ, List.set_cons_zero] at hs
  refine lw_on rfl rfl (rfl) ?_
  refine lw_constBytes hs rfl 0 rfl rfl Tryd.underlying23 Tryd.underlying5 rfl ?_
  clear hs
  intro w hs
  try simp only [List.set_cons_succ, List.set_cons_zero] at hs
  refine lw_on rfl rfl (rfl) ?_
  refine lw_call rfl en30 (append_sl (d := fD [(nm1 97, 1)] [] 4 [120, 121] 2) (L := rd _ _ :: L) hE (hs.arr [1, 0] 2 (by decide)) (by decide) (nm1 97) (x := [122]) (k := 0) (d2 := fD [(nm1 97, 1)] [] 5 [120, 121, 122] 2) (Rd.rd 0 rfl) rfl (by decide) (by kernel_rfl)) ?_
  clear hs
  rintro _ w ⟨rfl, hs⟩
  replace hs := hs.drop 1
  refine lw_on rfl rfl (rfl) ?_
  first | refine lw_val rfl (run_neerrn (ad := ad) rfl) ?_ | refine lw_val rfl (run_nenn rfl) ?_ | refine lw_val rfl (run_neE (ad := ad) rfl) ?_
  first | refine lw_val rfl (run_pickF (v := .bool _) rfl (rfl) rfl) ?_
  refine lw_nil ?_
  refine cw_iff rfl (rfl) ?_
  refine cw_skip ?_
  refine cw_seq ?_
  refine cw_region ?_
  first | refine lw_val rfl (run_move (v := .pointer (some _)) rfl) ?_ | refine lw_val rfl (run_move (v := .pointer none) rfl) ?_
  refine lw_call rfl en42 (crash_sl hs (by decide) (picks := []) Rd.nil rfl (by decide)) ?_
  clear hs
  rintro _ w ⟨rfl, hs⟩
  refine lw_nil ?_
  refine cw_seq ?_
  refine cw_region ?_
  first | refine lw_val rfl (run_move (v := .pointer (some _)) rfl) ?_ | refine lw_val rfl (run_move (v := .pointer none) rfl) ?_
  refine lw_call rfl en54 (len_sl hE hs (nm1 97) (k := 0) (m := 2) (by kernel_rfl)) ?_
  clear hs
  rintro _ w ⟨rfl, hs⟩
  first | refine lw_val rfl (run_move (v := .tuple _) rfl) ?_
  first | refine lw_val rfl (run_extract (v := .int .i64 _) rfl rfl) ?_
  first | refine lw_val rfl (run_extract (v := errV ad _) rfl rfl) ?_ | refine lw_val rfl (run_extract (v := .nilIface) rfl rfl) ?_ | refine lw_val rfl (run_extract (v := eV ad _ _) rfl rfl) ?_ | refine lw_val rfl (run_extract (v := .iface _ (.pointer (some _))) rfl rfl) ?_
  first | refine lw_val rfl (run_assign (v := .int .i64 _) rfl) ?_
  first | refine lw_val rfl (run_assign (v := errV ad _) rfl) ?_ | refine lw_val rfl (run_assign (v := .nilIface) rfl) ?_ | refine lw_val rfl (run_assign (v := eV ad _ _) rfl) ?_ | refine lw_val rfl (run_assign (v := .iface _ (.pointer (some _))) rfl) ?_
  refine lw_nil ?_
  refine cw_seq ?_
  refine cw_region ?_
  first | refine lw_val rfl (run_move (v := errV ad _) rfl) ?_ | refine lw_val rfl (run_move (v := .nilIface) rfl) ?_ | refine lw_val rfl (run_move (v := eV ad _ _) rfl) ?_ | refine lw_val rfl (run_move (v := .iface _ (.pointer (some _))) rfl) ?_
  first | refine lw_val rfl (run_eqerrn (ad := ad) rfl) ?_ | refine lw_val rfl (run_eqnn rfl) ?_ | refine lw_val rfl (run_eqE (ad := ad) rfl) ?_
  first | refine lw_val rfl (run_move (v := .bool _) rfl) ?_
  refine lw_on rfl rfl (rfl) ?_
  first | refine lw_val rfl (run_move (v := .int .i64 _) rfl) ?_
  refine lw_on rfl rfl (rfl) ?_
  refine lw_val rfl (run_eqi rfl rfl) ?_
  first | refine lw_val rfl (run_pickT (v := .bool _) rfl (rfl) rfl) ?_
  first | refine lw_val rfl (run_assign (v := .bool _) rfl) ?_
  refine lw_nil ?_
  refine cw_ret ?_
  refine res1 (v := .bool _) rfl rfl ?_
  exact ⟨_, rfl, rfl, hs.tail⟩
end Go.Proofs.YtmnfehbnjgmgjaaDoor
