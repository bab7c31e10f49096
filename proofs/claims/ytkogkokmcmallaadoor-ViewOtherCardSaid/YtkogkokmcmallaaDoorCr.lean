/- crc.Seal, crc.Open, slices.Equal of bytes, over chunks; vint.Put. -/
import Derived.Test.YtkogkokmcmallaaDoorBc
import Derived.Test.YtkogkokmcmallaaDoorZe
import Derived.Test.YtkogkokmcmallaaDoorVp
namespace Go.Proofs.YtkogkokmcmallaaDoor
set_option linter.all false
open Go.RowKit
attribute [local irreducible] errV
variable {g w : World} {L M : List HP} {ad : Nat → Addr}

/-- The codes that what is kept aside speaks of. -/
def pointCodes : List Nat := [101, 102, 105, 106, 107, 108, 109, 110]
abbrev ErrP (ad : Nat → Addr) (g : World) : Prop := Errs pointCodes ad g.heap.size g
theorem point_all {c : Nat} (h : c ∈ pointCodes) : c ∈ allCodes := by
  simp only [pointCodes, allCodes, List.mem_cons, List.not_mem_nil, or_false] at *; omega
theorem Errs.point {ad : Nat → Addr} {B : Nat} {w : World} (h : Errs allCodes ad B w) : Errs pointCodes ad B w :=
  ⟨fun c hc => h.pos c (point_all hc), fun c hc => h.cell c (point_all hc), fun c hc => h.block c (point_all hc), fun c hc d hd => h.inj c (point_all hc) d (point_all hd), fun c hc => h.lt c (point_all hc)⟩
def le4 (s : Nat) : List UInt8 := [UInt8.ofNat s, UInt8.ofNat (s / 2 ^ 8), UInt8.ofNat (s / 2 ^ 16), UInt8.ofNat (s / 2 ^ 24)]
/-- Bytes with their sum behind them. -/
def sealL (b : List UInt8) : List UInt8 := b ++ le4 (crcMore 0 b)
def openL (b : List UInt8) : Nat × List UInt8 := if b.length < 4 then (101, []) else if sealL (b.take (b.length - 4)) = b then (0, b.take (b.length - 4)) else (102, [])
theorem sealL_len (b : List UInt8) : (sealL b).length = b.length + 4 := by simp [sealL, le4]
theorem open_seal (b : List UInt8) : openL (sealL b) = (0, b) := by
  have h : (sealL b).take ((sealL b).length - 4) = b := by rw [sealL_len]; simp [sealL]
  unfold openL
  rw [if_neg (by rw [sealL_len]; omega), h, if_pos rfl]
theorem cof_sl (hs : Mem g w L) {b : Nat} {T : TypeId} {v : Value} {l : List UInt8} (i : Nat) (hi : L[i]? = some (cells b [v] T)) (hr : Rd g L v (bytesL l)) (hlen : l.length ≤ 1073741824) : Calls Tryd.prog 74 #[.slice (some ⟨b, 0, none⟩) 1 1] w (Ret fun v w' => v = .int .u32 (crcMore 0 l : Nat) ∧ Mem g w' L) := by
  have h1 : Rd g L (.slice (some ⟨b, 0, none⟩) 1 1) [v] := Rd.cells (n := 1) i hi rfl
  exact hs.calls (of_any0 (h1 w hs) (hr w hs) hlen)
theorem seal_sl (hs : Mem g w L) {a : Option Addr} {n c : Nat} {l : List UInt8} (hr : Rd g L (.slice a n c) (bytesL l)) (hn : n = l.length) (hlen : l.length ≤ 100000000) : Calls Tryd.prog 50 #[.slice a n c] w (Ret fun v w' => ∃ a' c', v = .slice a' (sealL l).length c' ∧ Mem g w' (own (.slice a' (sealL l).length c') (bytesL (sealL l)) :: L)) := by
  subst hn
  obtain ⟨s, hS⟩ : ∃ s, crcMore 0 l = s := ⟨_, rfl⟩
  have hs32 : s < 4294967296 := hS ▸ crcMore_lt (by decide) l
  refine calls_cw Tryd.func50 rfl rfl ?_
  skip
  refine cw_seq ?_
  refine cw_region ?_
  first | refine lw_val rfl (run_assign (v := .slice _ _ _) rfl) ?_
  refine lw_nil ?_
  refine cw_seq ?_
  refine cw_region ?_
  first | refine lw_val rfl (run_move (v := .slice _ _ _) rfl) ?_
  refine lw_buildSlice hs rfl ([.slice a l.length c]) Tryd.underlying146 zs59 rfl (by simp [Value.cells]) rfl rfl rfl ?_
  clear hs
  intro b5 w hs
  try simp only [List.set_cons_succ, List.set_cons_zero] at hs
  refine lw_call rfl en74 (cof_sl hs 0 rfl hr.cons (by omega)) ?_
  clear hs
  rintro _ w ⟨rfl, hs⟩
  rw [hS]
  first | refine lw_val rfl (run_assign (v := .int .u32 _) rfl) ?_
  refine lw_nil ?_
  refine cw_seq ?_
  refine cw_region ?_
  first | refine lw_val rfl (run_move (v := .slice _ _ _) rfl) ?_
  refine lw_call rfl en69 (clone_sl hs (l := l) hr.cons (by omega)) ?_
  clear hs
  rintro _ w ⟨a8, c8, rfl, hs⟩
  first | refine lw_val rfl (run_move (v := .int .u32 _) rfl) ?_
  refine lw_val rfl (run_convIn Tryd.underlying33 Tryd.underlying5 rfl (c := (((UInt8.ofNat s).toNat : Nat) : Int)) (wrapB s)) ?_
  first | refine lw_val rfl (run_move (v := .int .u32 _) rfl) ?_
  refine lw_val rfl (run_shr rfl rfl (n := 8) (c := ((s / 2 ^ 8 : Nat) : Int)) rfl (by decide) (by omega)) ?_
  refine lw_val rfl (run_convIn Tryd.underlying33 Tryd.underlying5 rfl (c := (((UInt8.ofNat (s / 2 ^ 8)).toNat : Nat) : Int)) (wrapB _)) ?_
  first | refine lw_val rfl (run_move (v := .int .u32 _) rfl) ?_
  refine lw_val rfl (run_shr rfl rfl (n := 16) (c := ((s / 2 ^ 16 : Nat) : Int)) rfl (by decide) (by omega)) ?_
  refine lw_val rfl (run_convIn Tryd.underlying33 Tryd.underlying5 rfl (c := (((UInt8.ofNat (s / 2 ^ 16)).toNat : Nat) : Int)) (wrapB _)) ?_
  first | refine lw_val rfl (run_move (v := .int .u32 _) rfl) ?_
  refine lw_val rfl (run_shr rfl rfl (n := 24) (c := ((s / 2 ^ 24 : Nat) : Int)) rfl (by decide) (by omega)) ?_
  refine lw_val rfl (run_convIn Tryd.underlying33 Tryd.underlying5 rfl (c := (((UInt8.ofNat (s / 2 ^ 24)).toNat : Nat) : Int)) (wrapB _)) ?_
  refine lw_buildSlice hs rfl ((bytesL (le4 s))) Tryd.underlying59 zs5 rfl (cells_one (bytesL_one _)) rfl rfl rfl ?_
  clear hs
  intro b20 w hs
  try simp only [List.set_cons_succ, List.set_cons_zero] at hs
  refine lw_append hs rfl 1 rfl Tryd.underlying59 in5 rfl rfl rfl (src_of_seq (P := Tryd.prog) Tryd.underlying59 ((Rd.cells (n := 4) (cs := bytesL (le4 s)) 0 rfl rfl).seq hs) (bytesL_one (le4 s))) (by simp only [bytesL_len, le4, List.length_cons, List.length_nil]; omega) (by simp only [bytesL_len, le4, List.length_cons, List.length_nil]; omega) ?_
  clear hs
  intro a21 c21 w hs
  simp only [List.set_cons_succ, List.set_cons_zero] at hs
  first | refine lw_val rfl (run_assign (v := .slice _ _ _) rfl) ?_
  refine lw_nil ?_
  refine cw_ret ?_
  refine res1 (v := .slice _ _ _) rfl rfl ?_
  have e : bytesL l ++ bytesL (le4 s) = bytesL (sealL l) := by rw [← bytesL_app, sealL, hS]
  have e2 : (bytesL l).length + (bytesL (le4 s)).length = (sealL l).length := by rw [bytesL_len, bytesL_len, sealL_len]; rfl
  rw [e, e2] at hs
  exact ⟨_, rfl, a21, c21, by rw [e2], hs.arr [1] 3 (by decide)⟩
end Go.Proofs.YtkogkokmcmallaaDoor
