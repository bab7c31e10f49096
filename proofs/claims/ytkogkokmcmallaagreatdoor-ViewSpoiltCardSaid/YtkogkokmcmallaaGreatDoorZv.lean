/- The reader, where nothing is amiss. Manifests read back. A struct is written into a slice of structs; items with their slices. A view read back. Two views: are they the same. A view's bytes, spoilt; its items in order. -/
import Derived.Test.YtkogkokmcmallaaGreatDoorVn
import Derived.Test.YtkogkokmcmallaaGreatDoorMf
import Derived.Test.YtkogkokmcmallaaGreatDoorZb
import Derived.Test.YtkogkokmcmallaaGreatDoorEx
import Derived.Test.YtkogkokmcmallaaGreatDoorVD
import Derived.Test.YtkogkokmcmallaaGreatDoorWq
import Derived.Test.YtkogkokmcmallaaGreatDoorVE
import Derived.Test.YtkogkokmcmallaaGreatDoorVC
import Derived.Test.YtkogkokmcmallaaGreatDoorVb
import Derived.Test.YtkogkokmcmallaaGreatDoorCx
import Derived.Test.YtkogkokmcmallaaGreatDoorNe
namespace Go.Proofs.YtkogkokmcmallaaGreatDoor
set_option linter.all false
open Go.RowKit
attribute [local irreducible] errV eV
variable {g w : World} {L M : List HP} {ad : Nat → Addr} {rb at_ : Nat} {b rest : List UInt8}

theorem drop_len (h : b.drop at_ = rest) (h0 : 0 < rest.length) : at_ + rest.length = b.length := by
  have := congrArg List.length h
  rw [List.length_drop] at this
  omega
theorem numOK_sl (hE : ErrW ad g) (hs : Mem g w (RdrC rb ad b (at_, 0) :: L)) (hlen : b.length ≤ 1073741824) {n most : Nat} (hb : b.drop at_ = vputL n ++ rest) (hn : n < 18446744073709551616) (hm : n ≤ most) :
    Calls Tryz.prog 117 #[.pointer (some ⟨rb, 0, none⟩), .int .u64 most] w (Ret fun v w' => v = .int .u64 n ∧ Mem g w' (RdrC rb ad b (at_ + (vputL n).length, 0) :: L)) :=
  num_sl hE hs hlen (by simp only [vnum, hb, vget_app hn rest]; rw [if_neg (by decide), if_neg (by decide), if_neg (by omega)])
theorem errOK_sl (hs : Mem g w (RdrC rb ad b (at_, 0) :: L)) : Calls Tryz.prog 118 #[.pointer (some ⟨rb, 0, none⟩)] w (Ret fun v w' => v = .nilIface ∧ Mem g w' (RdrC rb ad b (at_, 0) :: L)) :=
  (err_sl hs).mono fun _ _ ⟨v, h1, eb, h2, h3⟩ => ⟨v, h1, by rw [h2, eV_0], h3⟩
theorem intOK_sl (hE : ErrW ad g) (hs : Mem g w (RdrC rb ad b (at_, 0) :: L)) (hlen : b.length ≤ 1073741824) {z f t : Int} (hb : b.drop at_ = vputL (zig z) ++ rest) (hz : InI64 z) (hft : f ≤ z ∧ z ≤ t) :
    Calls Tryz.prog 202 #[.pointer (some ⟨rb, 0, none⟩), .int .i64 f, .int .i64 t] w (Ret fun v w' => v = .int .i64 z ∧ Mem g w' (RdrC rb ad b (at_ + (vputL (zig z)).length, 0) :: L)) := by
  obtain ⟨hl, a, c, eb, hc, hs⟩ := hs.openR
  simp only at hl
  simp only [eV_0] at hs
  have hq := congrArg List.length hb
  rw [List.length_drop, List.length_append] at hq
  have hv : vgetI (b.drop at_) = (0, z, (vputL (zig z)).length) := by simp [vgetI, hb, vget_app (zig_lt hz), zag_zig hz]
  refine calls_cw Tryz.func202 rfl rfl ?_
  skip
  refine cw_seq ?_
  refine cw_region ?_
  refine lw_val rfl (run_assign (v := .int .i64 _) rfl) ?_
  refine lw_nil ?_
  refine cw_seq ?_
  refine cw_seq ?_
  refine cw_region ?_
  refine lw_val rfl (run_move (v := .pointer (some _)) rfl) ?_
  refine lw_val rfl (run_nilCheckP rfl) ?_
  refine lw_val rfl (run_fieldAddr (o' := 2) Tryz.underlying243 rfl sz30 rfl rfl rfl) ?_
  refine lw_val rfl (run_load Tryz.underlying30 rfl rfl (hs.cellAt 0 rfl rfl)) ?_
  refine lw_val rfl (run_nenn rfl) ?_
  refine lw_nil ?_
  refine cw_iff rfl (rfl) ?_
  refine cw_skip ?_
  refine cw_seq ?_
  refine cw_drawS mixes hs ?_
  intro w tr hK
  replace hs := tr _ hs
  clear tr
  refine aw_take 0 rfl (by kernel_rfl) (by kernel_rfl) (by kernel_rfl) rfl (fun w hs => run_move (v := .pointer (some _)) rfl) hK ?_
  refine aw_take 1 rfl (by kernel_rfl) (by kernel_rfl) (by kernel_rfl) rfl (fun w hs => run_nilCheckP rfl) hK ?_
  refine aw_take 2 rfl (by kernel_rfl) (by kernel_rfl) (by kernel_rfl) rfl (fun w hs => run_fieldAddr (o' := 0) Tryz.underlying243 rfl sz64 rfl rfl rfl) hK ?_
  refine aw_take 3 rfl (by kernel_rfl) (by kernel_rfl) (by kernel_rfl) rfl (fun w hs => run_load Tryz.underlying64 rfl rfl (hs.cellAt 0 rfl rfl)) hK ?_
  refine aw_take 4 rfl (by kernel_rfl) (by kernel_rfl) (by kernel_rfl) rfl (fun w hs => run_move (v := .pointer (some _)) rfl) hK ?_
  refine aw_take 5 rfl (by kernel_rfl) (by kernel_rfl) (by kernel_rfl) rfl (fun w hs => run_nilCheckP rfl) hK ?_
  refine aw_take 6 rfl (by kernel_rfl) (by kernel_rfl) (by kernel_rfl) rfl (fun w hs => run_fieldAddr (o' := 1) Tryz.underlying243 rfl sz3 rfl rfl rfl) hK ?_
  refine aw_take 7 rfl (by kernel_rfl) (by kernel_rfl) (by kernel_rfl) rfl (fun w hs => run_load Tryz.underlying3 rfl rfl (hs.cellAt 0 rfl rfl)) hK ?_
  refine aw_take 8 rfl (by kernel_rfl) (by kernel_rfl) (by kernel_rfl) rfl (fun w hs => run_sliceFrom Tryz.underlying64 sz5 rfl rfl (lo := at_) rfl (by omega)) hK ?_
  refine aw_ready [9] (by kernel_rfl) (by simp) ?_
  refine ⟨⟨_, rfl, ?_⟩, trivial⟩
  refine lw_call rfl en238 (vgetI_sl hE hs (k := 0) (z := z) (q := (vputL (zig z)).length) (b := (b.take b.length).drop at_) ((hs.rdOwn 1 rfl).subB hl (Nat.le_refl _)) (by simp) (by simp; omega) (by rw [List.take_length]; exact hv)) ?_
  clear hs
  rintro _ w ⟨rfl, hs⟩
  clear hK
  have hK := hs
  refine lw_nil ⟨hK, ?_⟩
  refine aw_take 10 rfl (by kernel_rfl) (by kernel_rfl) (by kernel_rfl) rfl (fun w hs => run_move (v := .tuple _) rfl) hK ?_
  refine aw_take 11 rfl (by kernel_rfl) (by kernel_rfl) (by kernel_rfl) rfl (fun w hs => run_extract (v := .int .i64 _) rfl rfl) hK ?_
  refine aw_take 12 rfl (by kernel_rfl) (by kernel_rfl) (by kernel_rfl) rfl (fun w hs => run_extract (v := .int .i64 _) rfl rfl) hK ?_
  refine aw_take 13 rfl (by kernel_rfl) (by kernel_rfl) (by kernel_rfl) rfl (fun w hs => run_extract (v := errV ad _) rfl rfl) hK ?_
  refine aw_take 14 rfl (by kernel_rfl) (by kernel_rfl) (by kernel_rfl) rfl (fun w hs => run_assign (v := .int .i64 _) rfl) hK ?_
  refine aw_take 15 rfl (by kernel_rfl) (by kernel_rfl) (by kernel_rfl) rfl (fun w hs => run_assign (v := .int .i64 _) rfl) hK ?_
  refine aw_take 16 rfl (by kernel_rfl) (by kernel_rfl) (by kernel_rfl) rfl (fun w hs => run_assign (v := errV ad _) rfl) hK ?_
  refine aw_done (by kernel_rfl) ?_
  clear hK
  refine cw_seq ?_
  refine cw_seq ?_
  refine cw_region ?_
  refine lw_val rfl (run_move (v := errV ad _) rfl) ?_
  refine lw_val rfl (run_eqerrn (ad := ad) rfl) ?_
  refine lw_val rfl (run_move (v := .bool _) rfl) ?_
  refine lw_on rfl rfl (rfl) ?_
  refine lw_val rfl (run_move (v := .int .i64 _) rfl) ?_
  refine lw_on rfl rfl (rfl) ?_
  refine lw_val rfl (run_move (v := .int .i64 _) rfl) ?_
  refine lw_on rfl rfl (rfl) ?_
  refine lw_val rfl (run_lss rfl rfl) ?_
  refine lw_on rfl rfl (rfl) ?_
  refine lw_val rfl (run_move (v := .bool _) rfl) ?_
  refine lw_on rfl rfl (decide_eq_false (by omega)) ?_
  refine lw_val rfl (run_move (v := .int .i64 _) rfl) ?_
  refine lw_on rfl rfl (decide_eq_false (by omega)) ?_
  refine lw_val rfl (run_move (v := .int .i64 _) rfl) ?_
  refine lw_on rfl rfl (decide_eq_false (by omega)) ?_
  refine lw_val rfl (run_gtr rfl rfl) ?_
  refine lw_on rfl rfl (rfl) ?_
  refine lw_val rfl (run_pickF (v := .bool _) rfl (decide_eq_false (by omega)) rfl) ?_
  refine lw_val rfl (run_pickT (v := .bool _) rfl (rfl) rfl) ?_
  refine lw_nil ?_
  refine cw_iff rfl (decide_eq_false (by omega)) ?_
  refine cw_skip ?_
  refine cw_seq ?_
  refine cw_seq ?_
  refine cw_region ?_
  refine lw_val rfl (run_move (v := errV ad _) rfl) ?_
  refine lw_val rfl (run_neerrn (ad := ad) rfl) ?_
  refine lw_nil ?_
  refine cw_iff rfl (rfl) ?_
  refine cw_skip ?_
  refine cw_seq ?_
  refine cw_region ?_
  refine lw_val rfl (run_move (v := .pointer (some _)) rfl) ?_
  refine lw_val rfl (run_nilCheckP rfl) ?_
  refine lw_val rfl (run_fieldAddr (o' := 1) Tryz.underlying243 rfl sz3 rfl rfl rfl) ?_
  refine lw_val rfl (run_load Tryz.underlying3 rfl rfl (hs.cellAt 0 rfl rfl)) ?_
  refine lw_val rfl (run_move (v := .int .i64 _) rfl) ?_
  refine lw_val rfl (run_add64 rfl rfl (c := ((at_ + (vputL (zig z)).length : Nat) : Int)) (by omega) (inI (by omega) (by omega))) ?_
  refine lw_val rfl (run_nilCheckP rfl) ?_
  refine lw_val rfl (run_fieldAddr (o' := 1) Tryz.underlying243 rfl sz3 rfl rfl rfl) ?_
  refine lw_store (v := .int .i64 _) hs 0 rfl sz3 rfl rfl rfl rfl ?_
  clear hs
  intro w hs
  try simp only [List.set_cons_succ, List.set_cons_zero] at hs
  refine lw_nil ?_
  refine cw_seq ?_
  refine cw_region ?_
  refine lw_val rfl (run_move (v := .int .i64 _) rfl) ?_
  refine lw_val rfl (run_assign (v := .int .i64 _) rfl) ?_
  refine lw_nil ?_
  refine cw_ret ?_
  refine res1 (v := .int .i64 _) rfl rfl ?_
  exact ⟨_, rfl, rfl, Mem.closeR0 (by omega) hs⟩
theorem shl0 (u : Nat) (hu : u < 256) : IntKind.u64.wrap ((u : Int) * 2 ^ 0) = (u : Int) := by rw [wrap_u64]; omega
theorem fixOK_sl (hE : ErrW ad g) (hs : Mem g w (RdrC rb ad b (at_, 0) :: L)) (hlen : b.length ≤ 1073741824) {u : UInt8} (hb : b.drop at_ = u :: rest) :
    Calls Tryz.prog 119 #[.pointer (some ⟨rb, 0, none⟩), .int .i64 1] w (Ret fun v w' => v = .int .u64 (u.toNat : Nat) ∧ Mem g w' (RdrC rb ad b (at_ + 1, 0) :: L)) := by
  obtain ⟨hl, a, c, eb, hc, hs⟩ := hs.openR
  simp only at hl
  simp only [eV_0] at hs
  have hq := congrArg List.length hb
  rw [List.length_drop, List.length_cons] at hq
  have hut := u.toNat_lt
  refine calls_cw Tryz.func119 rfl rfl ?_
  skip
  refine cw_seq ?_
  refine cw_region ?_
  refine lw_val rfl (run_assign (v := .int .u64 _) rfl) ?_
  refine lw_nil ?_
  refine cw_seq ?_
  refine cw_seq ?_
  refine cw_region ?_
  refine lw_val rfl (run_move (v := .pointer (some _)) rfl) ?_
  refine lw_val rfl (run_nilCheckP rfl) ?_
  refine lw_val rfl (run_fieldAddr (o' := 2) Tryz.underlying243 rfl sz30 rfl rfl rfl) ?_
  refine lw_val rfl (run_load Tryz.underlying30 rfl rfl (hs.cellAt 0 rfl rfl)) ?_
  refine lw_val rfl (run_nenn rfl) ?_
  refine lw_val rfl (run_move (v := .bool _) rfl) ?_
  refine lw_on rfl rfl (rfl) ?_
  refine lw_val rfl (run_move (v := .int .i64 _) rfl) ?_
  refine lw_on rfl rfl (rfl) ?_
  refine lw_val rfl (run_lss rfl rfl) ?_
  refine lw_val rfl (run_pickF (v := .bool _) rfl (rfl) rfl) ?_
  refine lw_val rfl (run_move (v := .bool _) rfl) ?_
  refine lw_on rfl rfl (rfl) ?_
  refine lw_val rfl (run_move (v := .int .i64 _) rfl) ?_
  refine lw_on rfl rfl (rfl) ?_
  refine lw_val rfl (run_gtr rfl rfl) ?_
  refine lw_val rfl (run_pickF (v := .bool _) rfl (rfl) rfl) ?_
  refine lw_nil ?_
  refine cw_iff rfl (rfl) ?_
  refine cw_skip ?_
  refine cw_seq ?_
  refine cw_seq ?_
  replace hs := Mem.closeR0 hl hs
  refine cw_region ?_
  refine lw_val rfl (run_move (v := .int .i64 _) rfl) ?_
  refine lw_val rfl (run_move (v := .pointer (some _)) rfl) ?_
  refine lw_call rfl en122 (left_sl hs hlen) ?_
  clear hs
  rintro _ w ⟨rfl, hl2, hs⟩
  obtain ⟨hl3, a3, c3, eb3, hc3, hs⟩ := hs.openR
  simp only [eV_0] at hs
  refine lw_val rfl (run_gtr rfl rfl) ?_
  refine lw_nil ?_
  refine cw_iff rfl (decide_eq_false (by omega)) ?_
  refine cw_skip ?_
  refine cw_seq ?_
  refine cw_region ?_
  refine lw_val rfl (run_assign (v := .int .u64 _) rfl) ?_
  refine lw_nil ?_
  refine cw_seq ?_
  refine cw_seq ?_
  refine cw_drawS mixes hs ?_
  intro w tr hK
  replace hs := tr _ hs
  clear tr
  refine aw_take 0 rfl (by kernel_rfl) (by kernel_rfl) (by kernel_rfl) rfl (fun w hs => run_move (v := .pointer (some _)) rfl) hK ?_
  refine aw_take 1 rfl (by kernel_rfl) (by kernel_rfl) (by kernel_rfl) rfl (fun w hs => run_nilCheckP rfl) hK ?_
  refine aw_take 2 rfl (by kernel_rfl) (by kernel_rfl) (by kernel_rfl) rfl (fun w hs => run_fieldAddr (o' := 0) Tryz.underlying243 rfl sz64 rfl rfl rfl) hK ?_
  refine aw_take 3 rfl (by kernel_rfl) (by kernel_rfl) (by kernel_rfl) rfl (fun w hs => run_load Tryz.underlying64 rfl rfl (hs.cellAt 0 rfl rfl)) hK ?_
  refine aw_take 4 rfl (by kernel_rfl) (by kernel_rfl) (by kernel_rfl) rfl (fun w hs => run_move (v := .pointer (some _)) rfl) hK ?_
  refine aw_take 5 rfl (by kernel_rfl) (by kernel_rfl) (by kernel_rfl) rfl (fun w hs => run_nilCheckP rfl) hK ?_
  refine aw_take 6 rfl (by kernel_rfl) (by kernel_rfl) (by kernel_rfl) rfl (fun w hs => run_fieldAddr (o' := 1) Tryz.underlying243 rfl sz3 rfl rfl rfl) hK ?_
  refine aw_take 7 rfl (by kernel_rfl) (by kernel_rfl) (by kernel_rfl) rfl (fun w hs => run_load Tryz.underlying3 rfl rfl (hs.cellAt 0 rfl rfl)) hK ?_
  refine aw_take 8 rfl (by kernel_rfl) (by kernel_rfl) (by kernel_rfl) rfl (fun w hs => run_move (v := .pointer (some _)) rfl) hK ?_
  refine aw_take 9 rfl (by kernel_rfl) (by kernel_rfl) (by kernel_rfl) rfl (fun w hs => run_nilCheckP rfl) hK ?_
  refine aw_take 10 rfl (by kernel_rfl) (by kernel_rfl) (by kernel_rfl) rfl (fun w hs => run_fieldAddr (o' := 1) Tryz.underlying243 rfl sz3 rfl rfl rfl) hK ?_
  refine aw_take 11 rfl (by kernel_rfl) (by kernel_rfl) (by kernel_rfl) rfl (fun w hs => run_load Tryz.underlying3 rfl rfl (hs.cellAt 0 rfl rfl)) hK ?_
  refine aw_take 12 rfl (by kernel_rfl) (by kernel_rfl) (by kernel_rfl) rfl (fun w hs => run_move (v := .int .i64 _) rfl) hK ?_
  refine aw_take 13 rfl (by kernel_rfl) (by kernel_rfl) (by kernel_rfl) rfl (fun w hs => run_add64 rfl rfl (c := ((at_ + 1 : Nat) : Int)) (by omega) (inI (by omega) (by omega))) hK ?_
  refine aw_take 14 rfl (by kernel_rfl) (by kernel_rfl) (by kernel_rfl) rfl (fun w hs => run_slice Tryz.underlying64 sz5 rfl rfl rfl (lo := at_) (hi := at_ + 1) rfl rfl (by omega) (by omega)) hK ?_
  refine aw_take 15 rfl (by kernel_rfl) (by kernel_rfl) (by kernel_rfl) rfl (fun w hs => run_lenS Tryz.underlying64 rfl) hK ?_
  refine aw_take 16 rfl (by kernel_rfl) (by kernel_rfl) (by kernel_rfl) rfl (fun w hs => run_move (v := .int .i64 _) rfl) hK ?_
  refine aw_done (by kernel_rfl) ?_
  clear hK
  obtain ⟨sa, sc, hsub⟩ : ∃ sa sc, subS a3 c3 at_ (at_ + 1) = .slice sa 1 sc := ⟨_, _, by unfold subS; rw [show at_ + 1 - at_ = 1 by omega]⟩
  have hrs := fun (L : List HP) => (Rd.own (g := g) (L := cells rb [.slice a3 b.length c3, .int .i64 (at_ : Nat), .nilIface] 243 :: own (.slice a3 b.length c3) (bytesL b) :: L) 1 rfl).subB (show at_ ≤ at_ + 1 by omega) (show at_ + 1 ≤ b.length by omega)
  have hx1 : (b.take (at_ + 1)).drop at_ = [u] := by rw [List.drop_take, hb]; simp
  rw [hx1, hsub] at hrs
  rw [hsub]
  refine cw_block ?_
  refine cw_loop (X := Nat) [5, 6, 7, 48, 49, 50, 51, 52, 53, 54, 55, 56, 57, 58, 59, 60] (fun k => [(5, .int .u64 ((if k = 0 then 0 else u.toNat : Nat) : Int)), (48, .int .i64 (k : Nat))]) (fun k w => k ≤ 1 ∧ Mem g w (cells rb [.slice a3 b.length c3, .int .i64 (at_ : Nat), .nilIface] 243 :: own (.slice a3 b.length c3) (bytesL b) :: errC ad eb3 at_ 0 :: L)) (fun k => 1 - k) (0) ?_ ?_ ?_
  · exact ⟨rfl, rfl, trivial⟩
  · exact ⟨Nat.zero_le _, hs⟩
  clear hs
  rintro x ξ w hI
  obtain ⟨hk, hs⟩ := hI
  refine cw_seq ?_
  refine cw_region ?_
  refine lw_val rfl (run_lss rfl rfl) ?_
  refine lw_nil ?_
  refine cw_seq ?_
  refine cw_if rfl ?_ ?_
  · intro h49
    have g49 := of_decide_eq_true h49
    obtain rfl : x = 0 := by omega
    obtain ⟨b1, o1, rfl, _⟩ := (hrs _).cells' hs (by simp [bytesL])
    refine cw_skip ?_
    refine cw_seq ?_
    refine cw_block ?_
    refine cw_seq ?_
    refine cw_region ?_
    refine lw_val rfl (run_move (v := .int .i64 _) rfl) ?_
    refine lw_val rfl (run_indexAddr Tryz.underlying64 sz5 rfl rfl (i := 0) rfl (by decide) rfl) ?_
    refine lw_val rfl (run_load Tryz.underlying5 rfl rfl ((hrs _).cellAt hs (bytesL_at (l := [u]) (k := 0) rfl))) ?_
    refine lw_val rfl (run_assign (v := .int .i64 _) rfl) ?_
    refine lw_val rfl (run_assign (v := .int .u8 _) rfl) ?_
    refine lw_nil ?_
    refine cw_region ?_
    refine lw_val rfl (run_move (v := .int .u64 _) rfl) ?_
    refine lw_val rfl (run_move (v := .int .u8 _) rfl) ?_
    refine lw_val rfl (run_convIn Tryz.underlying5 Tryz.underlying172 rfl (c := ((u.toNat : Nat) : Int)) (by rw [wrap_u64]; omega)) ?_
    refine lw_val rfl (run_move (v := .int .i64 _) rfl) ?_
    refine lw_val rfl (run_mul64 rfl rfl (c := 0) rfl (inI (by omega) (by omega))) ?_
    refine lw_val rfl (run_shl rfl rfl (n := 0) (c := ((u.toNat : Nat) : Int)) rfl (by decide) (shl0 _ (by omega))) ?_
    refine lw_val rfl (run_bits (v := .int .u64 ((u.toNat : Nat) : Int)) (by simp) rfl rfl (by have h9 := or_u64 0 u.toNat (by decide) (by omega); rw [Nat.zero_or] at h9; exact (show _ = Result.ok (Value.int IntKind.u64 (bits .or .u64 ((0 : Nat) : Int) ((u.toNat : Nat) : Int))) _ from rfl).trans (by rw [h9]))) ?_
    refine lw_val rfl (run_assign (v := .int .u64 _) rfl) ?_
    refine lw_nil ?_
    refine cw_region ?_
    refine lw_val rfl (run_add64 rfl rfl rfl (inI (by omega) (by omega))) ?_
    refine lw_val rfl (run_move (v := .int .i64 _) rfl) ?_
    refine lw_nil ?_
    exact ⟨1, by omega, ⟨by omega, hs⟩, ⟨rfl, rfl, trivial⟩, by repeat (first | exact Out.mix _ _ _ | refine Out.updo rfl ?_ | refine Out.upd rfl ?_ | refine Out.mixIn rfl ?_)⟩
  · intro h49
    have g49 := of_decide_eq_false h49
    obtain rfl : x = 1 := by omega
    refine cw_exit rfl ?_
    refine cw_seq ?_
    refine cw_region ?_
    refine lw_val rfl (run_move (v := .pointer (some _)) rfl) ?_
    refine lw_val rfl (run_nilCheckP rfl) ?_
    refine lw_val rfl (run_fieldAddr (o' := 1) Tryz.underlying243 rfl sz3 rfl rfl rfl) ?_
    refine lw_val rfl (run_load Tryz.underlying3 rfl rfl (hs.cellAt 0 rfl rfl)) ?_
    refine lw_val rfl (run_move (v := .int .i64 _) rfl) ?_
    refine lw_val rfl (run_add64 rfl rfl (c := ((at_ + 1 : Nat) : Int)) (by omega) (inI (by omega) (by omega))) ?_
    refine lw_val rfl (run_nilCheckP rfl) ?_
    refine lw_val rfl (run_fieldAddr (o' := 1) Tryz.underlying243 rfl sz3 rfl rfl rfl) ?_
    refine lw_store (v := .int .i64 _) hs 0 rfl sz3 rfl rfl rfl rfl ?_
    clear hs
    intro w hs
    try simp only [List.set_cons_succ, List.set_cons_zero] at hs
    refine lw_nil ?_
    refine cw_seq ?_
    refine cw_region ?_
    refine lw_val rfl (run_move (v := .int .u64 _) rfl) ?_
    refine lw_val rfl (run_assign (v := .int .u64 _) rfl) ?_
    refine lw_nil ?_
    refine cw_ret ?_
    refine res1 (v := .int .u64 _) rfl rfl ?_
    exact ⟨_, rfl, rfl, Mem.closeR0 (by omega) hs⟩
theorem bytesOK_sl (hE : ErrW ad g) (hs : Mem g w (RdrC rb ad b (at_, 0) :: L)) (hlen : b.length ≤ 1073741824) {l : List UInt8} {most : Nat} (hb : b.drop at_ = vputL l.length ++ (l ++ rest)) (hm : l.length ≤ most) (hm2 : most ≤ 1000000000) :
    Calls Tryz.prog 120 #[.pointer (some ⟨rb, 0, none⟩), .int .i64 most] w (Ret fun v w' => ∃ s : SA, v = .slice s.1 l.length s.2 ∧ Mem g w' (own (.slice s.1 l.length s.2) (bytesL l) :: RdrC rb ad b (at_ + (vputL l.length).length + l.length, 0) :: L)) := by
  obtain ⟨hl, a, c, eb, hc, hs⟩ := hs.openR
  simp only at hl
  simp only [eV_0] at hs
  have hq := congrArg List.length hb
  rw [List.length_drop, List.length_append, List.length_append] at hq
  obtain ⟨vl, hvl⟩ : ∃ vl, vl = (vputL l.length).length := ⟨_, rfl⟩
  have hx1 : (b.take (at_ + vl + l.length)).drop (at_ + vl) = l := by
    have h1 : b.drop (at_ + vl) = l ++ rest := by rw [← List.drop_drop, hb, hvl, List.drop_left]
    rw [List.drop_take, h1, show at_ + vl + l.length - (at_ + vl) = l.length by omega, List.take_left]
  refine calls_cw Tryz.func120 rfl rfl ?_
  skip
  refine cw_seq ?_
  refine cw_region ?_
  refine lw_val rfl (run_assign (v := .slice _ _ _) rfl) ?_
  refine lw_nil ?_
  refine cw_seq ?_
  refine cw_region ?_
  refine lw_val rfl (run_move (v := .pointer (some _)) rfl) ?_
  refine lw_val rfl (run_nilCheckP rfl) ?_
  refine lw_val rfl (run_fieldAddr (o' := 1) Tryz.underlying243 rfl sz3 rfl rfl rfl) ?_
  refine lw_val rfl (run_load Tryz.underlying3 rfl rfl (hs.cellAt 0 rfl rfl)) ?_
  refine lw_val rfl (run_assign (v := .int .i64 _) rfl) ?_
  refine lw_nil ?_
  replace hs := Mem.closeR0 hl hs
  refine cw_seq ?_
  refine cw_region ?_
  refine lw_val rfl (run_move (v := .pointer (some _)) rfl) ?_
  refine lw_val rfl (run_move (v := .int .i64 _) rfl) ?_
  refine lw_val rfl (run_max rfl rfl) ?_
  refine lw_val rfl (run_convIn Tryz.underlying3 Tryz.underlying172 rfl (c := ((most : Nat) : Int)) (by rw [wrap_u64]; omega)) ?_
  refine lw_call rfl en117 (numOK_sl hE hs hlen hb (by omega) hm) ?_
  clear hs
  rintro _ w ⟨rfl, hs⟩
  obtain ⟨hl2, a2, c2, eb2, hc2, hs⟩ := hs.openR
  simp only [eV_0] at hs
  rw [← hvl] at hs hl2 ⊢
  simp only at hl2
  refine lw_val rfl (run_assign (v := .int .u64 _) rfl) ?_
  refine lw_nil ?_
  refine cw_seq ?_
  refine cw_seq ?_
  refine cw_region ?_
  refine lw_val rfl (run_move (v := .pointer (some _)) rfl) ?_
  refine lw_val rfl (run_nilCheckP rfl) ?_
  refine lw_val rfl (run_fieldAddr (o' := 2) Tryz.underlying243 rfl sz30 rfl rfl rfl) ?_
  refine lw_val rfl (run_load Tryz.underlying30 rfl rfl (hs.cellAt 0 rfl rfl)) ?_
  replace hs := Mem.closeR0 hl2 hs
  refine lw_val rfl (run_eqnn rfl) ?_
  refine lw_val rfl (run_move (v := .bool _) rfl) ?_
  refine lw_on rfl rfl (rfl) ?_
  refine lw_val rfl (run_move (v := .int .u64 _) rfl) ?_
  refine lw_on rfl rfl (rfl) ?_
  refine lw_val rfl (run_move (v := .pointer (some _)) rfl) ?_
  refine lw_on rfl rfl (rfl) ?_
  refine lw_call rfl en122 (left_sl hs hlen) ?_
  clear hs
  rintro _ w ⟨rfl, hl3, hs⟩
  obtain ⟨hl4, a4, c4, eb4, hc4, hs⟩ := hs.openR
  simp only [eV_0] at hs
  refine lw_on rfl rfl (rfl) ?_
  refine lw_val rfl (run_convIn Tryz.underlying3 Tryz.underlying172 rfl (c := ((b.length - (at_ + vl) : Nat) : Int)) (by rw [wrap_u64]; omega)) ?_
  refine lw_on rfl rfl (rfl) ?_
  refine lw_val rfl (run_gtr rfl rfl) ?_
  refine lw_val rfl (run_pickT (v := .bool _) rfl (rfl) rfl) ?_
  refine lw_nil ?_
  refine cw_iff rfl (decide_eq_false (by omega)) ?_
  refine cw_skip ?_
  refine cw_seq ?_
  refine cw_seq ?_
  refine cw_region ?_
  refine lw_val rfl (run_move (v := .pointer (some _)) rfl) ?_
  refine lw_val rfl (run_nilCheckP rfl) ?_
  refine lw_val rfl (run_fieldAddr (o' := 2) Tryz.underlying243 rfl sz30 rfl rfl rfl) ?_
  refine lw_val rfl (run_load Tryz.underlying30 rfl rfl (hs.cellAt 0 rfl rfl)) ?_
  refine lw_val rfl (run_nenn rfl) ?_
  refine lw_nil ?_
  refine cw_iff rfl (rfl) ?_
  refine cw_skip ?_
  refine cw_seq ?_
  refine cw_region ?_
  refine lw_val rfl (run_move (v := .pointer (some _)) rfl) ?_
  refine lw_val rfl (run_nilCheckP rfl) ?_
  refine lw_val rfl (run_fieldAddr (o' := 1) Tryz.underlying243 rfl sz3 rfl rfl rfl) ?_
  refine lw_val rfl (run_load Tryz.underlying3 rfl rfl (hs.cellAt 0 rfl rfl)) ?_
  refine lw_val rfl (run_move (v := .int .u64 _) rfl) ?_
  refine lw_val rfl (run_convIn Tryz.underlying172 Tryz.underlying3 rfl (c := ((l.length : Nat) : Int)) (InI64.wrap ⟨by omega, by omega⟩)) ?_
  refine lw_val rfl (run_add64 rfl rfl (c := ((at_ + vl + l.length : Nat) : Int)) (by omega) (inI (by omega) (by omega))) ?_
  refine lw_val rfl (run_nilCheckP rfl) ?_
  refine lw_val rfl (run_fieldAddr (o' := 1) Tryz.underlying243 rfl sz3 rfl rfl rfl) ?_
  refine lw_store (v := .int .i64 _) hs 0 rfl sz3 rfl rfl rfl rfl ?_
  clear hs
  intro w hs
  try simp only [List.set_cons_succ, List.set_cons_zero] at hs
  refine lw_nil ?_
  refine cw_seq ?_
  refine cw_drawS mixes hs ?_
  intro w tr hK
  replace hs := tr _ hs
  clear tr
  refine aw_take 0 rfl (by kernel_rfl) (by kernel_rfl) (by kernel_rfl) rfl (fun w hs => run_move (v := .pointer (some _)) rfl) hK ?_
  refine aw_take 1 rfl (by kernel_rfl) (by kernel_rfl) (by kernel_rfl) rfl (fun w hs => run_nilCheckP rfl) hK ?_
  refine aw_take 2 rfl (by kernel_rfl) (by kernel_rfl) (by kernel_rfl) rfl (fun w hs => run_fieldAddr (o' := 0) Tryz.underlying243 rfl sz64 rfl rfl rfl) hK ?_
  refine aw_take 3 rfl (by kernel_rfl) (by kernel_rfl) (by kernel_rfl) rfl (fun w hs => run_load Tryz.underlying64 rfl rfl (hs.cellAt 0 rfl rfl)) hK ?_
  refine aw_take 4 rfl (by kernel_rfl) (by kernel_rfl) (by kernel_rfl) rfl (fun w hs => run_move (v := .pointer (some _)) rfl) hK ?_
  refine aw_take 5 rfl (by kernel_rfl) (by kernel_rfl) (by kernel_rfl) rfl (fun w hs => run_nilCheckP rfl) hK ?_
  refine aw_take 6 rfl (by kernel_rfl) (by kernel_rfl) (by kernel_rfl) rfl (fun w hs => run_fieldAddr (o' := 1) Tryz.underlying243 rfl sz3 rfl rfl rfl) hK ?_
  refine aw_take 7 rfl (by kernel_rfl) (by kernel_rfl) (by kernel_rfl) rfl (fun w hs => run_load Tryz.underlying3 rfl rfl (hs.cellAt 0 rfl rfl)) hK ?_
  refine aw_take 8 rfl (by kernel_rfl) (by kernel_rfl) (by kernel_rfl) rfl (fun w hs => run_move (v := .int .u64 _) rfl) hK ?_
  refine aw_take 9 rfl (by kernel_rfl) (by kernel_rfl) (by kernel_rfl) rfl (fun w hs => run_convIn Tryz.underlying172 Tryz.underlying3 rfl (c := ((l.length : Nat) : Int)) (InI64.wrap ⟨by omega, by omega⟩)) hK ?_
  refine aw_take 10 rfl (by kernel_rfl) (by kernel_rfl) (by kernel_rfl) rfl (fun w hs => run_sub64 rfl rfl (c := ((at_ + vl : Nat) : Int)) (by omega) (inI (by omega) (by omega))) hK ?_
  refine aw_take 11 rfl (by kernel_rfl) (by kernel_rfl) (by kernel_rfl) rfl (fun w hs => run_move (v := .pointer (some _)) rfl) hK ?_
  refine aw_take 12 rfl (by kernel_rfl) (by kernel_rfl) (by kernel_rfl) rfl (fun w hs => run_nilCheckP rfl) hK ?_
  refine aw_take 13 rfl (by kernel_rfl) (by kernel_rfl) (by kernel_rfl) rfl (fun w hs => run_fieldAddr (o' := 1) Tryz.underlying243 rfl sz3 rfl rfl rfl) hK ?_
  refine aw_take 14 rfl (by kernel_rfl) (by kernel_rfl) (by kernel_rfl) rfl (fun w hs => run_load Tryz.underlying3 rfl rfl (hs.cellAt 0 rfl rfl)) hK ?_
  refine aw_take 15 rfl (by kernel_rfl) (by kernel_rfl) (by kernel_rfl) rfl (fun w hs => run_slice Tryz.underlying64 sz5 rfl rfl rfl (lo := at_ + vl) (hi := at_ + vl + l.length) rfl rfl (by omega) (by omega)) hK ?_
  refine aw_ready [16] (by kernel_rfl) (by simp) ?_
  refine ⟨⟨_, rfl, ?_⟩, trivial⟩
  refine lw_call rfl en94 (clone_sl hs (l := (b.take (at_ + vl + l.length)).drop (at_ + vl)) ((hs.rdOwn 1 rfl).subB (by omega) (by omega)) (by rw [hx1]; omega)) ?_
  clear hs
  rintro _ w ⟨a62, c62, rfl, hs⟩
  rw [hx1, bytesL_len] at hs ⊢
  clear hK
  have hK := hs.tail
  refine lw_nil ⟨hK, ?_⟩
  refine aw_take 17 rfl (by kernel_rfl) (by kernel_rfl) (by kernel_rfl) rfl (fun w hs => run_assign (v := .slice _ _ _) rfl) hK ?_
  refine aw_done (by kernel_rfl) ?_
  clear hK
  refine cw_ret ?_
  refine res1 (v := .slice _ _ _) rfl rfl ?_
  exact ⟨_, rfl, (a62, c62), rfl, (Mem.closeR0 (L := own _ _ :: L) (by omega) (hs.arr [1, 2, 3, 0] 4 (by decide))).arr [1, 0] 2 (by decide)⟩
end Go.Proofs.YtkogkokmcmallaaGreatDoor
namespace Go.Proofs.YtkogkokmcmallaaGreatDoor
set_option linter.all false
open Go.RowKit
attribute [local irreducible] errV eV
variable {g w : World} {L M : List HP} {ad : Nat → Addr}

theorem drop_eat {b x r : List UInt8} {i : Nat} (h : b.drop i = x ++ r) : b.drop (i + x.length) = r := by rw [← List.drop_drop, h, List.drop_left]
theorem wrapZ {n : Int} (h0 : 0 ≤ n) (h1 : n ≤ 1099511627776) : IntKind.i64.wrap ((n.toNat : Nat) : Int) = n := by rw [Int.toNat_of_nonneg h0]; exact wrap_i64 ⟨by omega, by omega⟩
theorem epB_drop {l : List Pr} {k : Nat} {q : Pr} (h : l[k]? = some q) : epB (l.drop k) = idB q.1 ++ (idB q.2 ++ epB (l.drop (k + 1))) := by
  obtain ⟨hk, he⟩ := List.getElem?_eq_some_iff.1 h
  rw [List.drop_eq_getElem_cons hk, he]; simp [epB, prB]
theorem obB_drop {l : List Ob} {k : Nat} {o : Ob} (h : l[k]? = some o) : obB (l.drop k) = vputL o.1.size ++ (o.1.data.toList ++ (idB o.2.1 ++ (vputL o.2.2 ++ obB (l.drop (k + 1))))) := by
  obtain ⟨hk, he⟩ := List.getElem?_eq_some_iff.1 h
  rw [List.drop_eq_getElem_cons hk, he]; simp [obB, oB]
theorem ob_short {o : Ob} (h : obBad o = 0) : 1 ≤ o.1.data.toList.length ∧ o.1.data.toList.length ≤ 64 := by
  unfold obBad at h
  split at h
  · cases h
  · rename_i hv
    have hv : validB o.1.data.toList = true := by simpa using hv
    simp only [validB, Bool.and_eq_true, decide_eq_true_eq] at hv
    omega
theorem str_of (s : ByteArray) : Value.string ⟨s.data.toList.toArray⟩ = Value.string s := by cases s; simp
set_option maxHeartbeats 4000000 in
theorem maniR_sl (hP : ErrP ad g) (hW : ErrW ad g) (hE : ErrV ad g) (hs : Mem g w L) {a : Option Addr} {n c : Nat} {m : Mf} (hr : Rd g L (.slice a n c) (bytesL (mfB m))) (hn : n = (mfB m).length) (hc : n ≤ c) (h0 : mfF m = (0, none)) (hu : ∀ q ∈ m.obs, q.2.2 < 4294967296) : Calls Tryz.prog 121 #[.slice a n c] w (Ret fun v w' => ∃ s1 s2 : SA, v = .tuple #[.agg (mfL m s1 s2).toArray, .nilIface] ∧ Mem g w' (mfP m s1 s2 ++ L)) := by
  have hF := mf_fine (x := m) (by rw [h0])
  have hbl := mfBody_len hF
  have h8 := hF.obs
  have h256 := hF.eps
  have hid := hF.id
  have hba := hF.base
  have hfi := hF.fin
  have hti := hF.time
  obtain ⟨B, hB⟩ : ∃ B, B = mfBody m := ⟨_, rfl⟩
  rw [← hB] at hbl
  have hd0 : B.drop 0 = idB m.id ++ (idB m.base ++ (idB m.fin ++ (vputL (zig m.time) ++ (vputL m.eps.length ++ (epB (m.eps.drop 0) ++ (vputL m.obs.length ++ (obB (m.obs.drop 0) ++ []))))))) := by rw [hB]; simp [mfBody, hdB]
  have hop : openL (mfB m) = (0, B) := by rw [hB]; exact open_seal _
  refine calls_cw Tryz.func121 rfl rfl ?_
  skip
  refine cw_seq ?_
  refine cw_region ?_
  refine lw_alloc hs rfl ze36 ?_
  clear hs
  intro b2 w hs
  try simp only [List.set_cons_succ, List.set_cons_zero] at hs
  refine lw_val rfl (run_assign (v := .nilIface) rfl) ?_
  refine lw_nil ?_
  refine cw_seq ?_
  refine cw_region ?_
  refine lw_val rfl (run_move (v := .slice _ _ _) rfl) ?_
  refine lw_call rfl en115 (copen_sl hP hs hr.cons hn hc (by rw [mfB, sealL_len, ← hB]; omega) hop) ?_
  clear hs
  rintro _ w ⟨a13, c13, rfl, hs⟩
  rw [errV_zero]
  refine lw_val rfl (run_move (v := .tuple _) rfl) ?_
  refine lw_val rfl (run_extract (v := .slice _ _ _) rfl rfl) ?_
  refine lw_val rfl (run_extract (v := .nilIface) rfl rfl) ?_
  refine lw_val rfl (run_assign (v := .slice _ _ _) rfl) ?_
  refine lw_val rfl (run_assign (v := .nilIface) rfl) ?_
  refine lw_nil ?_
  refine cw_seq ?_
  refine cw_seq ?_
  refine cw_region ?_
  refine lw_val rfl (run_move (v := .nilIface) rfl) ?_
  refine lw_val rfl (run_nenn rfl) ?_
  refine lw_nil ?_
  refine cw_iff rfl (rfl) ?_
  refine cw_skip ?_
  refine cw_seq ?_
  refine cw_region ?_
  refine lw_val rfl (run_move (v := .slice _ _ _) rfl) ?_
  refine lw_call rfl en116 (newr_sl ad hs (hs.rdOwn 0 rfl) rfl (by omega)) ?_
  clear hs
  rintro _ w ⟨rb, rfl, hs⟩
  replace hs := hs.drop 1
  refine lw_val rfl (run_assign (v := .pointer (some _)) rfl) ?_
  refine lw_nil ?_
  refine cw_seq ?_
  refine cw_region ?_
  refine lw_val rfl (run_move (v := .pointer (some _)) rfl) ?_
  refine lw_call rfl en117 (numOK_sl (most := 4611686018427387904) hW hs (by omega) hd0 (by omega) (by omega)) ?_
  clear hs
  rintro _ w ⟨rfl, hs⟩
  have hd1 : B.drop (0 + (vputL m.id.toNat).length) = _ := drop_eat hd0
  generalize 0 + (vputL m.id.toNat).length = p1 at hs hd1
  refine lw_val rfl (run_convIn Tryz.underlying172 Tryz.underlying3 rfl (c := m.id) (wrapZ hid.1 (by omega))) ?_
  refine lw_val rfl (run_move (v := .pointer (some _)) rfl) ?_
  refine lw_call rfl en117 (numOK_sl (most := 4611686018427387904) hW hs (by omega) hd1 (by omega) (by omega)) ?_
  clear hs
  rintro _ w ⟨rfl, hs⟩
  have hd2 : B.drop (p1 + (vputL m.base.toNat).length) = _ := drop_eat hd1
  generalize p1 + (vputL m.base.toNat).length = p2 at hs hd2
  refine lw_val rfl (run_convIn Tryz.underlying172 Tryz.underlying2 rfl (c := m.base) (wrapZ hba.1 hba.2)) ?_
  refine lw_val rfl (run_move (v := .pointer (some _)) rfl) ?_
  refine lw_call rfl en117 (numOK_sl (most := 4611686018427387904) hW hs (by omega) hd2 (by omega) (by omega)) ?_
  clear hs
  rintro _ w ⟨rfl, hs⟩
  have hd3 : B.drop (p2 + (vputL m.fin.toNat).length) = _ := drop_eat hd2
  generalize p2 + (vputL m.fin.toNat).length = p3 at hs hd3
  refine lw_val rfl (run_convIn Tryz.underlying172 Tryz.underlying2 rfl (c := m.fin) (wrapZ hfi.1 hfi.2)) ?_
  refine lw_val rfl (run_move (v := .pointer (some _)) rfl) ?_
  refine lw_call rfl en202 (intOK_sl hW hs (by omega) hd3 ⟨by omega, by omega⟩ ⟨by omega, by omega⟩) ?_
  clear hs
  rintro _ w ⟨rfl, hs⟩
  have hd4 : B.drop (p3 + (vputL (zig m.time)).length) = _ := drop_eat hd3
  generalize p3 + (vputL (zig m.time)).length = p4 at hs hd4
  refine lw_val rfl (run_build (cs := [.int .i64 m.id, .int .i64 m.base, .int .i64 m.fin, .int .i64 m.time, .slice none 0 0, .slice none 0 0]) Tryz.underlying36 ze36 pl36 rfl) ?_
  refine lw_alloc hs rfl ze36 ?_
  clear hs
  intro b7 w hs
  try simp only [List.set_cons_succ, List.set_cons_zero] at hs
  refine lw_storeRow hs 0 rfl rfl rfl sz36 rfl rfl ?_
  clear hs
  intro w hs
  try simp only [List.set_cons_succ, List.set_cons_zero] at hs
  refine lw_nil ?_
  replace hs := hs.arr [1, 0, 2] 3 (by decide)
  refine cw_seq ?_
  refine cw_seq ?_
  refine cw_region ?_
  refine lw_val rfl (run_move (v := .pointer (some _)) rfl) ?_
  refine lw_call rfl en117 (numOK_sl (most := 256) hW hs (by omega) hd4 (by omega) (by omega)) ?_
  clear hs
  rintro _ w ⟨rfl, hs⟩
  have hd5 : B.drop (p4 + (vputL m.eps.length).length) = _ := drop_eat hd4
  generalize p4 + (vputL m.eps.length).length = p5 at hs hd5
  refine lw_val rfl (run_assign (v := .int .u64 _) rfl) ?_
  refine lw_nil ?_
  replace hs := (hs.addE (rowK_nil 2 _)).arr [1, 0, 2, 3] 4 (by decide)
  refine cw_block ?_
  refine cw_loop (X := Nat × SA × Nat) [8, 36, 37, 38, 39, 40, 41, 42, 43, 44, 45, 46, 47, 48, 49, 50, 51, 52, 53, 54, 55, 56] (fun q => [(8, .int .u64 ((m.eps.length - q.1 : Nat) : Int))]) (fun q w => q.1 ≤ m.eps.length ∧ B.drop q.2.2 = epB (m.eps.drop q.1) ++ (vputL m.obs.length ++ (obB (m.obs.drop 0) ++ [])) ∧ Mem g w (RdrC rb ad B (q.2.2, 0) :: rowK 2 (.slice q.2.1.1 q.1 q.2.1.2) ((m.eps.take q.1).map prL) :: cells b7 [.int .i64 m.id, .int .i64 m.base, .int .i64 m.fin, .int .i64 m.time, .slice q.2.1.1 q.1 q.2.1.2, .slice none 0 0] 36 :: cells b2 [.int .i64 0, .int .i64 0, .int .i64 0, .int .i64 0, .slice none 0 0, .slice none 0 0] 36 :: L)) (fun q => m.eps.length - q.1) ((0, (none, 0), p5)) ?_ ?_ ?_
  · exact ⟨rfl, trivial⟩
  · exact ⟨Nat.zero_le _, hd5, hs⟩
  clear hs
  rintro x ξ w hI
  obtain ⟨k, s, p⟩ := x
  obtain ⟨hk, hd, hs⟩ := hI
  simp only at hk hd hs
  show cw _ _ _ _ _ _ (updL (mix _ ξ _) [(8, .int .u64 ((m.eps.length - k : Nat) : Int))]) w
  refine cw_seq ?_
  refine cw_seq ?_
  refine cw_region ?_
  refine lw_val rfl (run_move (v := .int .u64 _) rfl) ?_
  refine lw_val rfl (run_gtr rfl rfl) ?_
  refine lw_val rfl (run_move (v := .bool _) rfl) ?_
  refine lw_split (t := _) (d := 38) rfl ?_ ?_
  · intro h37
    have g37 := of_decide_eq_true h37
    obtain ⟨y, hy⟩ : ∃ y, m.eps[k]? = some y := ⟨_, List.getElem?_eq_getElem (by omega)⟩
    have hpy := hF.pr y (List.mem_of_getElem? hy)
    rw [epB_drop hy, List.append_assoc, List.append_assoc] at hd
    refine lw_on rfl rfl h37 ?_
    refine lw_val rfl (run_move (v := .pointer (some _)) rfl) ?_
    refine lw_on rfl rfl h37 ?_
    refine lw_call rfl en118 (errOK_sl hs) ?_
    clear hs
    rintro _ w ⟨rfl, hs⟩
    refine lw_on rfl rfl h37 ?_
    refine lw_val rfl (run_eqnn rfl) ?_
    refine lw_val rfl (run_pickT (v := .bool _) rfl h37 rfl) ?_
    refine lw_nil ?_
    refine cw_ift rfl (rfl) ?_
    refine cw_skip ?_
    refine cw_seq ?_
    refine cw_block ?_
    refine cw_drawS mixes (hs.suffix 4 rfl) ?_
    intro w tr hK
    replace hs := tr _ hs
    clear tr
    refine aw_take 0 rfl (by kernel_rfl) (by kernel_rfl) (by kernel_rfl) rfl (fun w hs => run_fieldAddr (o' := 4) Tryz.underlying36 rfl sz33 rfl rfl rfl) hK ?_
    refine aw_take 2 rfl (by kernel_rfl) (by kernel_rfl) (by kernel_rfl) rfl (fun w hs => run_move (v := .pointer (some _)) rfl) hK ?_
    refine aw_take 5 rfl (by kernel_rfl) (by kernel_rfl) (by kernel_rfl) rfl (fun w hs => run_move (v := .pointer (some _)) rfl) hK ?_
    refine aw_ready [1, 3] (by kernel_rfl) (by simp) ?_
    refine ⟨⟨_, rfl, ?_⟩, ⟨_, rfl, ?_⟩, trivial⟩
    · skip
      refine lw_val rfl (run_load Tryz.underlying33 rfl rfl (hs.cellAt 2 rfl rfl)) ?_
      clear hK
      have hK := (show Mem g w L from by first | exact hs.suffix 4 rfl | exact hs.suffix 5 rfl)
      refine lw_nil ⟨hK, ?_⟩
      refine aw_ready [3] (by kernel_rfl) (by simp) ?_
      refine ⟨⟨_, rfl, ?_⟩, trivial⟩
      refine lw_call rfl en117 (numOK_sl (most := 4611686018427387904) hW hs (by omega) hd (by omega) (by omega)) ?_
      clear hs
      rintro _ w ⟨rfl, hs⟩
      have he1 : B.drop (p + (vputL y.1.toNat).length) = _ := drop_eat hd
      generalize p + (vputL y.1.toNat).length = q1 at hs he1
      clear hK
      have hK := hs.suffix 4 rfl
      refine lw_nil ⟨hK, ?_⟩
      refine aw_take 4 rfl (by kernel_rfl) (by kernel_rfl) (by kernel_rfl) rfl (fun w hs => run_convIn Tryz.underlying172 Tryz.underlying3 rfl (c := y.1) (wrapZ hpy.1.1 (by omega))) hK ?_
      refine aw_ready [6] (by kernel_rfl) (by simp) ?_
      refine ⟨⟨_, rfl, ?_⟩, trivial⟩
      refine lw_call rfl en117 (numOK_sl (most := 4611686018427387904) hW hs (by omega) he1 (by omega) (by omega)) ?_
      clear hs
      rintro _ w ⟨rfl, hs⟩
      have he2 : B.drop (q1 + (vputL y.2.toNat).length) = _ := drop_eat he1
      generalize q1 + (vputL y.2.toNat).length = q2 at hs he2
      clear hK
      have hK := hs.suffix 4 rfl
      refine lw_nil ⟨hK, ?_⟩
      refine aw_take 7 rfl (by kernel_rfl) (by kernel_rfl) (by kernel_rfl) rfl (fun w hs => run_convIn Tryz.underlying172 Tryz.underlying2 rfl (c := y.2) (wrapZ hpy.2.1 hpy.2.2)) hK ?_
      refine aw_take 8 rfl (by kernel_rfl) (by kernel_rfl) (by kernel_rfl) rfl (fun w hs => run_buildF ([.int .i64 y.1, .int .i64 y.2]) Tryz.underlying141 ze141 pl141 rfl (by simp [Value.cells]) rfl rfl) hK ?_
      refine aw_ready [9] (by kernel_rfl) (by simp) ?_
      refine ⟨⟨_, rfl, ?_⟩, trivial⟩
      refine lw_buildRow hs rfl (row := prL y) Tryz.underlying33 zsPr rfl (fill_pr y.1 y.2) (by decide) (by decide) ?_
      clear hs
      intro b54 w hs
      clear hK
      have hK := hs.suffix 5 rfl
      refine lw_nil ⟨hK, ?_⟩
      refine aw_ready [10] (by kernel_rfl) (by simp) ?_
      refine ⟨⟨_, rfl, ?_⟩, trivial⟩
      refine lw_appendRow hs rfl 2 0 rfl rfl Tryz.underlying33 Tryz.underlying33 in141 rfl rfl (by rfl) rfl rfl (by simp only [List.length_map, List.length_take]; omega) (by simp only [List.length_map, List.length_take]; omega) ?_
      clear hs
      intro a55 c55 w hs
      simp only [List.set_cons_succ, List.set_cons_zero] at hs
      clear hK
      have hK := hs.suffix 5 rfl
      refine lw_nil ⟨hK, ?_⟩
      refine aw_take 11 rfl (by kernel_rfl) (by kernel_rfl) (by kernel_rfl) rfl (fun w hs => run_fieldAddr (o' := 4) Tryz.underlying36 rfl sz33 rfl rfl rfl) hK ?_
      refine aw_ready [12] (by kernel_rfl) (by simp) ?_
      refine ⟨⟨_, rfl, ?_⟩, trivial⟩
      refine lw_store (v := .slice _ _ _) hs 3 rfl sz33 rfl rfl rfl rfl ?_
      clear hs
      intro w hs
      try simp only [List.set_cons_succ, List.set_cons_zero] at hs
      clear hK
      have hK := hs.suffix 5 rfl
      refine lw_nil ⟨hK, ?_⟩
      refine aw_done (by kernel_rfl) ?_
      clear hK
      refine cw_region ?_
      refine lw_val rfl (run_move (v := .int .u64 _) rfl) ?_
      refine lw_val rfl (run_sub rfl rfl) ?_
      refine lw_val rfl (run_assign (v := .int .u64 _) rfl) ?_
      refine lw_nil ?_
      have hw : IntKind.u64.wrap (((m.eps.length - k : Nat) : Int) - 1) = ((m.eps.length - (k + 1) : Nat) : Int) := by rw [wrap_u64]; omega
      have hl : ((m.eps.take k).map prL).length = k := by rw [List.length_map, List.length_take]; omega
      rw [hl] at hs
      exact ⟨(k + 1, (a55, c55), q2), by simp only; omega, ⟨by simp only; omega, he2, by simp only [List.take_add_one, hy, Option.toList, List.map_append, List.map_cons, List.map_nil]; exact hs.tail⟩, ⟨congrArg (Value.int .u64) hw, trivial⟩, by repeat (first | exact Out.mix _ _ _ | refine Out.updo rfl ?_ | refine Out.upd rfl ?_ | refine Out.mixIn rfl ?_)⟩
    · skip
      refine lw_call rfl en117 (numOK_sl (most := 4611686018427387904) hW hs (by omega) hd (by omega) (by omega)) ?_
      clear hs
      rintro _ w ⟨rfl, hs⟩
      have he1 : B.drop (p + (vputL y.1.toNat).length) = _ := drop_eat hd
      generalize p + (vputL y.1.toNat).length = q1 at hs he1
      clear hK
      have hK := hs.suffix 4 rfl
      refine lw_nil ⟨hK, ?_⟩
      refine aw_take 4 rfl (by kernel_rfl) (by kernel_rfl) (by kernel_rfl) rfl (fun w hs => run_convIn Tryz.underlying172 Tryz.underlying3 rfl (c := y.1) (wrapZ hpy.1.1 (by omega))) hK ?_
      refine aw_ready [1, 6] (by kernel_rfl) (by simp) ?_
      refine ⟨⟨_, rfl, ?_⟩, ⟨_, rfl, ?_⟩, trivial⟩
      · skip
        refine lw_val rfl (run_load Tryz.underlying33 rfl rfl (hs.cellAt 2 rfl rfl)) ?_
        clear hK
        have hK := (show Mem g w L from by first | exact hs.suffix 4 rfl | exact hs.suffix 5 rfl)
        refine lw_nil ⟨hK, ?_⟩
        refine aw_ready [6] (by kernel_rfl) (by simp) ?_
        refine ⟨⟨_, rfl, ?_⟩, trivial⟩
        refine lw_call rfl en117 (numOK_sl (most := 4611686018427387904) hW hs (by omega) he1 (by omega) (by omega)) ?_
        clear hs
        rintro _ w ⟨rfl, hs⟩
        have he2 : B.drop (q1 + (vputL y.2.toNat).length) = _ := drop_eat he1
        generalize q1 + (vputL y.2.toNat).length = q2 at hs he2
        clear hK
        have hK := hs.suffix 4 rfl
        refine lw_nil ⟨hK, ?_⟩
        refine aw_take 7 rfl (by kernel_rfl) (by kernel_rfl) (by kernel_rfl) rfl (fun w hs => run_convIn Tryz.underlying172 Tryz.underlying2 rfl (c := y.2) (wrapZ hpy.2.1 hpy.2.2)) hK ?_
        refine aw_take 8 rfl (by kernel_rfl) (by kernel_rfl) (by kernel_rfl) rfl (fun w hs => run_buildF ([.int .i64 y.1, .int .i64 y.2]) Tryz.underlying141 ze141 pl141 rfl (by simp [Value.cells]) rfl rfl) hK ?_
        refine aw_ready [9] (by kernel_rfl) (by simp) ?_
        refine ⟨⟨_, rfl, ?_⟩, trivial⟩
        refine lw_buildRow hs rfl (row := prL y) Tryz.underlying33 zsPr rfl (fill_pr y.1 y.2) (by decide) (by decide) ?_
        clear hs
        intro b54 w hs
        clear hK
        have hK := hs.suffix 5 rfl
        refine lw_nil ⟨hK, ?_⟩
        refine aw_ready [10] (by kernel_rfl) (by simp) ?_
        refine ⟨⟨_, rfl, ?_⟩, trivial⟩
        refine lw_appendRow hs rfl 2 0 rfl rfl Tryz.underlying33 Tryz.underlying33 in141 rfl rfl (by rfl) rfl rfl (by simp only [List.length_map, List.length_take]; omega) (by simp only [List.length_map, List.length_take]; omega) ?_
        clear hs
        intro a55 c55 w hs
        simp only [List.set_cons_succ, List.set_cons_zero] at hs
        clear hK
        have hK := hs.suffix 5 rfl
        refine lw_nil ⟨hK, ?_⟩
        refine aw_take 11 rfl (by kernel_rfl) (by kernel_rfl) (by kernel_rfl) rfl (fun w hs => run_fieldAddr (o' := 4) Tryz.underlying36 rfl sz33 rfl rfl rfl) hK ?_
        refine aw_ready [12] (by kernel_rfl) (by simp) ?_
        refine ⟨⟨_, rfl, ?_⟩, trivial⟩
        refine lw_store (v := .slice _ _ _) hs 3 rfl sz33 rfl rfl rfl rfl ?_
        clear hs
        intro w hs
        try simp only [List.set_cons_succ, List.set_cons_zero] at hs
        clear hK
        have hK := hs.suffix 5 rfl
        refine lw_nil ⟨hK, ?_⟩
        refine aw_done (by kernel_rfl) ?_
        clear hK
        refine cw_region ?_
        refine lw_val rfl (run_move (v := .int .u64 _) rfl) ?_
        refine lw_val rfl (run_sub rfl rfl) ?_
        refine lw_val rfl (run_assign (v := .int .u64 _) rfl) ?_
        refine lw_nil ?_
        have hw : IntKind.u64.wrap (((m.eps.length - k : Nat) : Int) - 1) = ((m.eps.length - (k + 1) : Nat) : Int) := by rw [wrap_u64]; omega
        have hl : ((m.eps.take k).map prL).length = k := by rw [List.length_map, List.length_take]; omega
        rw [hl] at hs
        exact ⟨(k + 1, (a55, c55), q2), by simp only; omega, ⟨by simp only; omega, he2, by simp only [List.take_add_one, hy, Option.toList, List.map_append, List.map_cons, List.map_nil]; exact hs.tail⟩, ⟨congrArg (Value.int .u64) hw, trivial⟩, by repeat (first | exact Out.mix _ _ _ | refine Out.updo rfl ?_ | refine Out.upd rfl ?_ | refine Out.mixIn rfl ?_)⟩
      · skip
        refine lw_call rfl en117 (numOK_sl (most := 4611686018427387904) hW hs (by omega) he1 (by omega) (by omega)) ?_
        clear hs
        rintro _ w ⟨rfl, hs⟩
        have he2 : B.drop (q1 + (vputL y.2.toNat).length) = _ := drop_eat he1
        generalize q1 + (vputL y.2.toNat).length = q2 at hs he2
        clear hK
        have hK := hs.suffix 4 rfl
        refine lw_nil ⟨hK, ?_⟩
        refine aw_take 7 rfl (by kernel_rfl) (by kernel_rfl) (by kernel_rfl) rfl (fun w hs => run_convIn Tryz.underlying172 Tryz.underlying2 rfl (c := y.2) (wrapZ hpy.2.1 hpy.2.2)) hK ?_
        refine aw_take 8 rfl (by kernel_rfl) (by kernel_rfl) (by kernel_rfl) rfl (fun w hs => run_buildF ([.int .i64 y.1, .int .i64 y.2]) Tryz.underlying141 ze141 pl141 rfl (by simp [Value.cells]) rfl rfl) hK ?_
        refine aw_ready [1, 9] (by kernel_rfl) (by simp) ?_
        refine ⟨⟨_, rfl, ?_⟩, ⟨_, rfl, ?_⟩, trivial⟩
        · skip
          refine lw_val rfl (run_load Tryz.underlying33 rfl rfl (hs.cellAt 2 rfl rfl)) ?_
          clear hK
          have hK := (show Mem g w L from by first | exact hs.suffix 4 rfl | exact hs.suffix 5 rfl)
          refine lw_nil ⟨hK, ?_⟩
          refine aw_ready [9] (by kernel_rfl) (by simp) ?_
          refine ⟨⟨_, rfl, ?_⟩, trivial⟩
          refine lw_buildRow hs rfl (row := prL y) Tryz.underlying33 zsPr rfl (fill_pr y.1 y.2) (by decide) (by decide) ?_
          clear hs
          intro b54 w hs
          clear hK
          have hK := hs.suffix 5 rfl
          refine lw_nil ⟨hK, ?_⟩
          refine aw_ready [10] (by kernel_rfl) (by simp) ?_
          refine ⟨⟨_, rfl, ?_⟩, trivial⟩
          refine lw_appendRow hs rfl 2 0 rfl rfl Tryz.underlying33 Tryz.underlying33 in141 rfl rfl (by rfl) rfl rfl (by simp only [List.length_map, List.length_take]; omega) (by simp only [List.length_map, List.length_take]; omega) ?_
          clear hs
          intro a55 c55 w hs
          simp only [List.set_cons_succ, List.set_cons_zero] at hs
          clear hK
          have hK := hs.suffix 5 rfl
          refine lw_nil ⟨hK, ?_⟩
          refine aw_take 11 rfl (by kernel_rfl) (by kernel_rfl) (by kernel_rfl) rfl (fun w hs => run_fieldAddr (o' := 4) Tryz.underlying36 rfl sz33 rfl rfl rfl) hK ?_
          refine aw_ready [12] (by kernel_rfl) (by simp) ?_
          refine ⟨⟨_, rfl, ?_⟩, trivial⟩
          refine lw_store (v := .slice _ _ _) hs 3 rfl sz33 rfl rfl rfl rfl ?_
          clear hs
          intro w hs
          try simp only [List.set_cons_succ, List.set_cons_zero] at hs
          clear hK
          have hK := hs.suffix 5 rfl
          refine lw_nil ⟨hK, ?_⟩
          refine aw_done (by kernel_rfl) ?_
          clear hK
          refine cw_region ?_
          refine lw_val rfl (run_move (v := .int .u64 _) rfl) ?_
          refine lw_val rfl (run_sub rfl rfl) ?_
          refine lw_val rfl (run_assign (v := .int .u64 _) rfl) ?_
          refine lw_nil ?_
          have hw : IntKind.u64.wrap (((m.eps.length - k : Nat) : Int) - 1) = ((m.eps.length - (k + 1) : Nat) : Int) := by rw [wrap_u64]; omega
          have hl : ((m.eps.take k).map prL).length = k := by rw [List.length_map, List.length_take]; omega
          rw [hl] at hs
          exact ⟨(k + 1, (a55, c55), q2), by simp only; omega, ⟨by simp only; omega, he2, by simp only [List.take_add_one, hy, Option.toList, List.map_append, List.map_cons, List.map_nil]; exact hs.tail⟩, ⟨congrArg (Value.int .u64) hw, trivial⟩, by repeat (first | exact Out.mix _ _ _ | refine Out.updo rfl ?_ | refine Out.upd rfl ?_ | refine Out.mixIn rfl ?_)⟩
        · skip
          refine lw_buildRow hs rfl (row := prL y) Tryz.underlying33 zsPr rfl (fill_pr y.1 y.2) (by decide) (by decide) ?_
          clear hs
          intro b54 w hs
          clear hK
          have hK := hs.suffix 5 rfl
          refine lw_nil ⟨hK, ?_⟩
          refine aw_ready [1] (by kernel_rfl) (by simp) ?_
          refine ⟨⟨_, rfl, ?_⟩, trivial⟩
          refine lw_val rfl (run_load Tryz.underlying33 rfl rfl (hs.cellAt 3 rfl rfl)) ?_
          clear hK
          have hK := (show Mem g w L from by first | exact hs.suffix 4 rfl | exact hs.suffix 5 rfl)
          refine lw_nil ⟨hK, ?_⟩
          refine aw_ready [10] (by kernel_rfl) (by simp) ?_
          refine ⟨⟨_, rfl, ?_⟩, trivial⟩
          refine lw_appendRow hs rfl 2 0 rfl rfl Tryz.underlying33 Tryz.underlying33 in141 rfl rfl (by rfl) rfl rfl (by simp only [List.length_map, List.length_take]; omega) (by simp only [List.length_map, List.length_take]; omega) ?_
          clear hs
          intro a55 c55 w hs
          simp only [List.set_cons_succ, List.set_cons_zero] at hs
          clear hK
          have hK := hs.suffix 5 rfl
          refine lw_nil ⟨hK, ?_⟩
          refine aw_take 11 rfl (by kernel_rfl) (by kernel_rfl) (by kernel_rfl) rfl (fun w hs => run_fieldAddr (o' := 4) Tryz.underlying36 rfl sz33 rfl rfl rfl) hK ?_
          refine aw_ready [12] (by kernel_rfl) (by simp) ?_
          refine ⟨⟨_, rfl, ?_⟩, trivial⟩
          refine lw_store (v := .slice _ _ _) hs 3 rfl sz33 rfl rfl rfl rfl ?_
          clear hs
          intro w hs
          try simp only [List.set_cons_succ, List.set_cons_zero] at hs
          clear hK
          have hK := hs.suffix 5 rfl
          refine lw_nil ⟨hK, ?_⟩
          refine aw_done (by kernel_rfl) ?_
          clear hK
          refine cw_region ?_
          refine lw_val rfl (run_move (v := .int .u64 _) rfl) ?_
          refine lw_val rfl (run_sub rfl rfl) ?_
          refine lw_val rfl (run_assign (v := .int .u64 _) rfl) ?_
          refine lw_nil ?_
          have hw : IntKind.u64.wrap (((m.eps.length - k : Nat) : Int) - 1) = ((m.eps.length - (k + 1) : Nat) : Int) := by rw [wrap_u64]; omega
          have hl : ((m.eps.take k).map prL).length = k := by rw [List.length_map, List.length_take]; omega
          rw [hl] at hs
          exact ⟨(k + 1, (a55, c55), q2), by simp only; omega, ⟨by simp only; omega, he2, by simp only [List.take_add_one, hy, Option.toList, List.map_append, List.map_cons, List.map_nil]; exact hs.tail⟩, ⟨congrArg (Value.int .u64) hw, trivial⟩, by repeat (first | exact Out.mix _ _ _ | refine Out.updo rfl ?_ | refine Out.upd rfl ?_ | refine Out.mixIn rfl ?_)⟩
  · intro h37
    have g37 := of_decide_eq_false h37
    obtain rfl : k = m.eps.length := by omega
    rw [List.drop_length, List.take_length] at *
    have hd6 : B.drop p = vputL m.obs.length ++ (obB (m.obs.drop 0) ++ []) := hd
    refine lw_off rfl rfl rfl h37 ?_
    refine lw_off rfl rfl rfl h37 ?_
    refine lw_off rfl rfl rfl h37 ?_
    refine lw_val rfl (run_pickF (v := .bool _) rfl h37 rfl) ?_
    refine lw_nil ?_
    refine cw_iff rfl rfl ?_
    refine cw_exit rfl ?_
    refine cw_seq ?_
    refine cw_seq ?_
    refine cw_region ?_
    refine lw_val rfl (run_move (v := .pointer (some _)) rfl) ?_
    refine lw_call rfl en117 (numOK_sl (most := 8) hW hs (by omega) hd6 (by omega) (by omega)) ?_
    clear hs
    rintro _ w ⟨rfl, hs⟩
    have hd7 : B.drop (p + (vputL m.obs.length).length) = _ := drop_eat hd6
    generalize p + (vputL m.obs.length).length = p7 at hs hd7
    refine lw_val rfl (run_assign (v := .int .u64 _) rfl) ?_
    refine lw_nil ?_
    replace hs := (hs.addE (rowK_nil 3 _)).arr [1, 0, 2, 3, 4] 5 (by decide)
    refine cw_block ?_
    refine cw_loop (X := Nat × SA × Nat) [9, 59, 60, 61, 62, 63, 64, 65, 66, 67, 68, 69, 70, 71, 72, 73, 74, 75, 76, 77, 78, 79, 80, 81, 82] (fun q => [(9, .int .u64 ((m.obs.length - q.1 : Nat) : Int))]) (fun q w => q.1 ≤ m.obs.length ∧ B.drop q.2.2 = obB (m.obs.drop q.1) ++ [] ∧ Mem g w (RdrC rb ad B (q.2.2, 0) :: rowK 3 (.slice q.2.1.1 q.1 q.2.1.2) ((m.obs.take q.1).map obL) :: rowK 2 (.slice s.1 m.eps.length s.2) (m.eps.map prL) :: cells b7 [.int .i64 m.id, .int .i64 m.base, .int .i64 m.fin, .int .i64 m.time, .slice s.1 m.eps.length s.2, .slice q.2.1.1 q.1 q.2.1.2] 36 :: cells b2 [.int .i64 0, .int .i64 0, .int .i64 0, .int .i64 0, .slice none 0 0, .slice none 0 0] 36 :: L)) (fun q => m.obs.length - q.1) ((0, (none, 0), p7)) ?_ ?_ ?_
    · exact ⟨rfl, trivial⟩
    · exact ⟨Nat.zero_le _, hd7, hs⟩
    clear hs
    rintro x ξ w hI
    obtain ⟨k, s', p'⟩ := x
    obtain ⟨hk, hd, hs⟩ := hI
    simp only at hk hd hs
    show cw _ _ _ _ _ _ (updL (mix _ ξ _) [(9, .int .u64 ((m.obs.length - k : Nat) : Int))]) w
    refine cw_seq ?_
    refine cw_seq ?_
    refine cw_region ?_
    refine lw_val rfl (run_move (v := .int .u64 _) rfl) ?_
    refine lw_val rfl (run_gtr rfl rfl) ?_
    refine lw_val rfl (run_move (v := .bool _) rfl) ?_
    refine lw_split (t := _) (d := 61) rfl ?_ ?_
    · intro h60
      have g60 := of_decide_eq_true h60
      obtain ⟨y, hy⟩ : ∃ y, m.obs[k]? = some y := ⟨_, List.getElem?_eq_getElem (by omega)⟩
      have hpy := hF.ob y (List.mem_of_getElem? hy)
      have hpo := ob_fine hpy
      have huy := hu y (List.mem_of_getElem? hy)
      have hol := ob_short hpy
      have hys : y.1.size = y.1.data.toList.length := Array.length_toList.symm
      rw [obB_drop hy, List.append_assoc, List.append_assoc, List.append_assoc, List.append_assoc, hys] at hd
      refine lw_on rfl rfl h60 ?_
      refine lw_val rfl (run_move (v := .pointer (some _)) rfl) ?_
      refine lw_on rfl rfl h60 ?_
      refine lw_call rfl en118 (errOK_sl hs) ?_
      clear hs
      rintro _ w ⟨rfl, hs⟩
      refine lw_on rfl rfl h60 ?_
      refine lw_val rfl (run_eqnn rfl) ?_
      refine lw_val rfl (run_pickT (v := .bool _) rfl h60 rfl) ?_
      refine lw_nil ?_
      refine cw_ift rfl (rfl) ?_
      refine cw_skip ?_
      refine cw_seq ?_
      refine cw_block ?_
      refine cw_drawS mixes (hs.suffix 5 rfl) ?_
      intro w tr hK
      replace hs := tr _ hs
      clear tr
      refine aw_take 0 rfl (by kernel_rfl) (by kernel_rfl) (by kernel_rfl) rfl (fun w hs => run_fieldAddr (o' := 5) Tryz.underlying36 rfl sz34 rfl rfl rfl) hK ?_
      refine aw_take 2 rfl (by kernel_rfl) (by kernel_rfl) (by kernel_rfl) rfl (fun w hs => run_move (v := .pointer (some _)) rfl) hK ?_
      refine aw_take 5 rfl (by kernel_rfl) (by kernel_rfl) (by kernel_rfl) rfl (fun w hs => run_move (v := .pointer (some _)) rfl) hK ?_
      refine aw_take 8 rfl (by kernel_rfl) (by kernel_rfl) (by kernel_rfl) rfl (fun w hs => run_move (v := .pointer (some _)) rfl) hK ?_
      refine aw_ready [1, 3] (by kernel_rfl) (by simp) ?_
      refine ⟨⟨_, rfl, ?_⟩, ⟨_, rfl, ?_⟩, trivial⟩
      · skip
        refine lw_val rfl (run_load Tryz.underlying34 rfl rfl (hs.cellAt 3 rfl rfl)) ?_
        clear hK
        have hK := (show Mem g w L from by first | exact hs.suffix 5 rfl | exact hs.suffix 6 rfl | exact hs.suffix 7 rfl)
        refine lw_nil ⟨hK, ?_⟩
        refine aw_ready [3] (by kernel_rfl) (by simp) ?_
        refine ⟨⟨_, rfl, ?_⟩, trivial⟩
        refine lw_call rfl en120 (bytesOK_sl (most := 64) hW hs (by omega) hd (by omega) (by omega)) ?_
        clear hs
        rintro _ w ⟨⟨sa71, sc71⟩, rfl, hs⟩
        have he1 : B.drop (p' + (vputL y.1.data.toList.length).length + y.1.data.toList.length) = _ := drop_eat (drop_eat hd)
        generalize p' + (vputL y.1.data.toList.length).length + y.1.data.toList.length = q1 at hs he1
        obtain ⟨b71, o71, hb71, hc71⟩ := hs.ownCells 0 rfl (by rw [bytesL_len]; omega)
        simp only at hb71
        subst hb71
        clear hc71
        replace hs := hs.arr [1, 0, 2, 3, 4, 5] 6 (by decide)
        clear hK
        have hK := hs.suffix 6 rfl
        refine lw_nil ⟨hK, ?_⟩
        refine aw_ready [4, 6] (by kernel_rfl) (by simp) ?_
        refine ⟨⟨_, rfl, ?_⟩, ⟨_, rfl, ?_⟩, trivial⟩
        · skip
          refine lw_val rfl (run_bytesStr Tryz.underlying64 Tryz.underlying5 Tryz.underlying9 rfl rfl (fun j v hj => hs.ownAt 1 rfl hj)) ?_
          clear hK
          have hK := hs.suffix 6 rfl
          refine lw_nil ⟨hK, ?_⟩
          refine aw_ready [6] (by kernel_rfl) (by simp) ?_
          refine ⟨⟨_, rfl, ?_⟩, trivial⟩
          refine lw_call rfl en117 (numOK_sl (most := 4611686018427387904) hW hs (by omega) he1 (by omega) (by omega)) ?_
          clear hs
          rintro _ w ⟨rfl, hs⟩
          have he2 : B.drop (q1 + (vputL y.2.1.toNat).length) = _ := drop_eat he1
          generalize q1 + (vputL y.2.1.toNat).length = q2 at hs he2
          clear hK
          have hK := hs.suffix 6 rfl
          refine lw_nil ⟨hK, ?_⟩
          refine aw_take 7 rfl (by kernel_rfl) (by kernel_rfl) (by kernel_rfl) rfl (fun w hs => run_convIn Tryz.underlying172 Tryz.underlying3 rfl (c := y.2.1) (wrapZ hpo.1 (by omega))) hK ?_
          refine aw_ready [9] (by kernel_rfl) (by simp) ?_
          refine ⟨⟨_, rfl, ?_⟩, trivial⟩
          refine lw_call rfl en117 (numOK_sl (most := 4294967295) hW hs (by omega) he2 (by omega) (by omega)) ?_
          clear hs
          rintro _ w ⟨rfl, hs⟩
          have he3 : B.drop (q2 + (vputL y.2.2).length) = _ := drop_eat he2
          generalize q2 + (vputL y.2.2).length = q3 at hs he3
          clear hK
          have hK := hs.suffix 6 rfl
          refine lw_nil ⟨hK, ?_⟩
          refine aw_take 10 rfl (by kernel_rfl) (by kernel_rfl) (by kernel_rfl) rfl (fun w hs => run_convIn Tryz.underlying172 Tryz.underlying39 rfl (c := ((y.2.2 : Nat) : Int)) (by simp [IntKind.wrap, IntKind.bits, IntKind.signed]; omega)) hK ?_
          refine aw_take 11 rfl (by kernel_rfl) (by kernel_rfl) (by kernel_rfl) rfl (fun w hs => run_buildF ([.string y.1, .int .i64 y.2.1, .int .u32 ((y.2.2 : Nat) : Int)]) Tryz.underlying41 ze41 pl41 rfl (by simp [Value.cells]) rfl rfl) hK ?_
          refine aw_ready [12] (by kernel_rfl) (by simp) ?_
          refine ⟨⟨_, rfl, ?_⟩, trivial⟩
          refine lw_buildRow hs rfl (row := obL y) Tryz.underlying34 zsOb rfl (fill_ob1 y.1 y.2.1 y.2.2) (by decide) (by decide) ?_
          clear hs
          intro b80 w hs
          clear hK
          have hK := hs.suffix 7 rfl
          refine lw_nil ⟨hK, ?_⟩
          refine aw_ready [13] (by kernel_rfl) (by simp) ?_
          refine ⟨⟨_, rfl, ?_⟩, trivial⟩
          refine lw_appendRow hs rfl 3 0 rfl rfl Tryz.underlying34 Tryz.underlying34 in41 rfl rfl (by rfl) rfl rfl (by simp only [List.length_map, List.length_take]; omega) (by simp only [List.length_map, List.length_take]; omega) ?_
          clear hs
          intro a81 c81 w hs
          simp only [List.set_cons_succ, List.set_cons_zero] at hs
          clear hK
          have hK := hs.suffix 7 rfl
          refine lw_nil ⟨hK, ?_⟩
          refine aw_take 14 rfl (by kernel_rfl) (by kernel_rfl) (by kernel_rfl) rfl (fun w hs => run_fieldAddr (o' := 5) Tryz.underlying36 rfl sz34 rfl rfl rfl) hK ?_
          refine aw_ready [15] (by kernel_rfl) (by simp) ?_
          refine ⟨⟨_, rfl, ?_⟩, trivial⟩
          refine lw_store (v := .slice _ _ _) hs 5 rfl sz34 rfl rfl rfl rfl ?_
          clear hs
          intro w hs
          try simp only [List.set_cons_succ, List.set_cons_zero] at hs
          clear hK
          have hK := hs.suffix 7 rfl
          refine lw_nil ⟨hK, ?_⟩
          refine aw_done (by kernel_rfl) ?_
          clear hK
          refine cw_region ?_
          refine lw_val rfl (run_move (v := .int .u64 _) rfl) ?_
          refine lw_val rfl (run_sub rfl rfl) ?_
          refine lw_val rfl (run_assign (v := .int .u64 _) rfl) ?_
          refine lw_nil ?_
          have hw : IntKind.u64.wrap (((m.obs.length - k : Nat) : Int) - 1) = ((m.obs.length - (k + 1) : Nat) : Int) := by rw [wrap_u64]; omega
          have hl : ((m.obs.take k).map obL).length = k := by rw [List.length_map, List.length_take]; omega
          rw [hl] at hs
          exact ⟨(k + 1, (a81, c81), q3), by simp only; omega, ⟨by simp only; omega, he3, by simp only [List.take_add_one, hy, Option.toList, List.map_append, List.map_cons, List.map_nil]; exact hs.arr [1, 3, 4, 5, 6] 7 (by decide)⟩, ⟨congrArg (Value.int .u64) hw, trivial⟩, by repeat (first | exact Out.mix _ _ _ | refine Out.updo rfl ?_ | refine Out.upd rfl ?_ | refine Out.mixIn rfl ?_)⟩
        · skip
          refine lw_call rfl en117 (numOK_sl (most := 4611686018427387904) hW hs (by omega) he1 (by omega) (by omega)) ?_
          clear hs
          rintro _ w ⟨rfl, hs⟩
          have he2 : B.drop (q1 + (vputL y.2.1.toNat).length) = _ := drop_eat he1
          generalize q1 + (vputL y.2.1.toNat).length = q2 at hs he2
          clear hK
          have hK := hs.suffix 6 rfl
          refine lw_nil ⟨hK, ?_⟩
          refine aw_take 7 rfl (by kernel_rfl) (by kernel_rfl) (by kernel_rfl) rfl (fun w hs => run_convIn Tryz.underlying172 Tryz.underlying3 rfl (c := y.2.1) (wrapZ hpo.1 (by omega))) hK ?_
          refine aw_ready [4, 9] (by kernel_rfl) (by simp) ?_
          refine ⟨⟨_, rfl, ?_⟩, ⟨_, rfl, ?_⟩, trivial⟩
          · skip
            refine lw_val rfl (run_bytesStr Tryz.underlying64 Tryz.underlying5 Tryz.underlying9 rfl rfl (fun j v hj => hs.ownAt 1 rfl hj)) ?_
            clear hK
            have hK := hs.suffix 6 rfl
            refine lw_nil ⟨hK, ?_⟩
            refine aw_ready [9] (by kernel_rfl) (by simp) ?_
            refine ⟨⟨_, rfl, ?_⟩, trivial⟩
            refine lw_call rfl en117 (numOK_sl (most := 4294967295) hW hs (by omega) he2 (by omega) (by omega)) ?_
            clear hs
            rintro _ w ⟨rfl, hs⟩
            have he3 : B.drop (q2 + (vputL y.2.2).length) = _ := drop_eat he2
            generalize q2 + (vputL y.2.2).length = q3 at hs he3
            clear hK
            have hK := hs.suffix 6 rfl
            refine lw_nil ⟨hK, ?_⟩
            refine aw_take 10 rfl (by kernel_rfl) (by kernel_rfl) (by kernel_rfl) rfl (fun w hs => run_convIn Tryz.underlying172 Tryz.underlying39 rfl (c := ((y.2.2 : Nat) : Int)) (by simp [IntKind.wrap, IntKind.bits, IntKind.signed]; omega)) hK ?_
            refine aw_take 11 rfl (by kernel_rfl) (by kernel_rfl) (by kernel_rfl) rfl (fun w hs => run_buildF ([.string y.1, .int .i64 y.2.1, .int .u32 ((y.2.2 : Nat) : Int)]) Tryz.underlying41 ze41 pl41 rfl (by simp [Value.cells]) rfl rfl) hK ?_
            refine aw_ready [12] (by kernel_rfl) (by simp) ?_
            refine ⟨⟨_, rfl, ?_⟩, trivial⟩
            refine lw_buildRow hs rfl (row := obL y) Tryz.underlying34 zsOb rfl (fill_ob1 y.1 y.2.1 y.2.2) (by decide) (by decide) ?_
            clear hs
            intro b80 w hs
            clear hK
            have hK := hs.suffix 7 rfl
            refine lw_nil ⟨hK, ?_⟩
            refine aw_ready [13] (by kernel_rfl) (by simp) ?_
            refine ⟨⟨_, rfl, ?_⟩, trivial⟩
            refine lw_appendRow hs rfl 3 0 rfl rfl Tryz.underlying34 Tryz.underlying34 in41 rfl rfl (by rfl) rfl rfl (by simp only [List.length_map, List.length_take]; omega) (by simp only [List.length_map, List.length_take]; omega) ?_
            clear hs
            intro a81 c81 w hs
            simp only [List.set_cons_succ, List.set_cons_zero] at hs
            clear hK
            have hK := hs.suffix 7 rfl
            refine lw_nil ⟨hK, ?_⟩
            refine aw_take 14 rfl (by kernel_rfl) (by kernel_rfl) (by kernel_rfl) rfl (fun w hs => run_fieldAddr (o' := 5) Tryz.underlying36 rfl sz34 rfl rfl rfl) hK ?_
            refine aw_ready [15] (by kernel_rfl) (by simp) ?_
            refine ⟨⟨_, rfl, ?_⟩, trivial⟩
            refine lw_store (v := .slice _ _ _) hs 5 rfl sz34 rfl rfl rfl rfl ?_
            clear hs
            intro w hs
            try simp only [List.set_cons_succ, List.set_cons_zero] at hs
            clear hK
            have hK := hs.suffix 7 rfl
            refine lw_nil ⟨hK, ?_⟩
            refine aw_done (by kernel_rfl) ?_
            clear hK
            refine cw_region ?_
            refine lw_val rfl (run_move (v := .int .u64 _) rfl) ?_
            refine lw_val rfl (run_sub rfl rfl) ?_
            refine lw_val rfl (run_assign (v := .int .u64 _) rfl) ?_
            refine lw_nil ?_
            have hw : IntKind.u64.wrap (((m.obs.length - k : Nat) : Int) - 1) = ((m.obs.length - (k + 1) : Nat) : Int) := by rw [wrap_u64]; omega
            have hl : ((m.obs.take k).map obL).length = k := by rw [List.length_map, List.length_take]; omega
            rw [hl] at hs
            exact ⟨(k + 1, (a81, c81), q3), by simp only; omega, ⟨by simp only; omega, he3, by simp only [List.take_add_one, hy, Option.toList, List.map_append, List.map_cons, List.map_nil]; exact hs.arr [1, 3, 4, 5, 6] 7 (by decide)⟩, ⟨congrArg (Value.int .u64) hw, trivial⟩, by repeat (first | exact Out.mix _ _ _ | refine Out.updo rfl ?_ | refine Out.upd rfl ?_ | refine Out.mixIn rfl ?_)⟩
          · skip
            refine lw_call rfl en117 (numOK_sl (most := 4294967295) hW hs (by omega) he2 (by omega) (by omega)) ?_
            clear hs
            rintro _ w ⟨rfl, hs⟩
            have he3 : B.drop (q2 + (vputL y.2.2).length) = _ := drop_eat he2
            generalize q2 + (vputL y.2.2).length = q3 at hs he3
            clear hK
            have hK := hs.suffix 6 rfl
            refine lw_nil ⟨hK, ?_⟩
            refine aw_take 10 rfl (by kernel_rfl) (by kernel_rfl) (by kernel_rfl) rfl (fun w hs => run_convIn Tryz.underlying172 Tryz.underlying39 rfl (c := ((y.2.2 : Nat) : Int)) (by simp [IntKind.wrap, IntKind.bits, IntKind.signed]; omega)) hK ?_
            refine aw_ready [4] (by kernel_rfl) (by simp) ?_
            refine ⟨⟨_, rfl, ?_⟩, trivial⟩
            refine lw_val rfl (run_bytesStr Tryz.underlying64 Tryz.underlying5 Tryz.underlying9 rfl rfl (fun j v hj => hs.ownAt 1 rfl hj)) ?_
            clear hK
            have hK := hs.suffix 6 rfl
            refine lw_nil ⟨hK, ?_⟩
            refine aw_take 11 rfl (by kernel_rfl) (by kernel_rfl) (by kernel_rfl) rfl (fun w hs => run_buildF ([.string y.1, .int .i64 y.2.1, .int .u32 ((y.2.2 : Nat) : Int)]) Tryz.underlying41 ze41 pl41 rfl (by simp [Value.cells]) rfl rfl) hK ?_
            refine aw_ready [12] (by kernel_rfl) (by simp) ?_
            refine ⟨⟨_, rfl, ?_⟩, trivial⟩
            refine lw_buildRow hs rfl (row := obL y) Tryz.underlying34 zsOb rfl (fill_ob1 y.1 y.2.1 y.2.2) (by decide) (by decide) ?_
            clear hs
            intro b80 w hs
            clear hK
            have hK := hs.suffix 7 rfl
            refine lw_nil ⟨hK, ?_⟩
            refine aw_ready [13] (by kernel_rfl) (by simp) ?_
            refine ⟨⟨_, rfl, ?_⟩, trivial⟩
            refine lw_appendRow hs rfl 3 0 rfl rfl Tryz.underlying34 Tryz.underlying34 in41 rfl rfl (by rfl) rfl rfl (by simp only [List.length_map, List.length_take]; omega) (by simp only [List.length_map, List.length_take]; omega) ?_
            clear hs
            intro a81 c81 w hs
            simp only [List.set_cons_succ, List.set_cons_zero] at hs
            clear hK
            have hK := hs.suffix 7 rfl
            refine lw_nil ⟨hK, ?_⟩
            refine aw_take 14 rfl (by kernel_rfl) (by kernel_rfl) (by kernel_rfl) rfl (fun w hs => run_fieldAddr (o' := 5) Tryz.underlying36 rfl sz34 rfl rfl rfl) hK ?_
            refine aw_ready [15] (by kernel_rfl) (by simp) ?_
            refine ⟨⟨_, rfl, ?_⟩, trivial⟩
            refine lw_store (v := .slice _ _ _) hs 5 rfl sz34 rfl rfl rfl rfl ?_
            clear hs
            intro w hs
            try simp only [List.set_cons_succ, List.set_cons_zero] at hs
            clear hK
            have hK := hs.suffix 7 rfl
            refine lw_nil ⟨hK, ?_⟩
            refine aw_done (by kernel_rfl) ?_
            clear hK
            refine cw_region ?_
            refine lw_val rfl (run_move (v := .int .u64 _) rfl) ?_
            refine lw_val rfl (run_sub rfl rfl) ?_
            refine lw_val rfl (run_assign (v := .int .u64 _) rfl) ?_
            refine lw_nil ?_
            have hw : IntKind.u64.wrap (((m.obs.length - k : Nat) : Int) - 1) = ((m.obs.length - (k + 1) : Nat) : Int) := by rw [wrap_u64]; omega
            have hl : ((m.obs.take k).map obL).length = k := by rw [List.length_map, List.length_take]; omega
            rw [hl] at hs
            exact ⟨(k + 1, (a81, c81), q3), by simp only; omega, ⟨by simp only; omega, he3, by simp only [List.take_add_one, hy, Option.toList, List.map_append, List.map_cons, List.map_nil]; exact hs.arr [1, 3, 4, 5, 6] 7 (by decide)⟩, ⟨congrArg (Value.int .u64) hw, trivial⟩, by repeat (first | exact Out.mix _ _ _ | refine Out.updo rfl ?_ | refine Out.upd rfl ?_ | refine Out.mixIn rfl ?_)⟩
      · skip
        refine lw_call rfl en120 (bytesOK_sl (most := 64) hW hs (by omega) hd (by omega) (by omega)) ?_
        clear hs
        rintro _ w ⟨⟨sa71, sc71⟩, rfl, hs⟩
        have he1 : B.drop (p' + (vputL y.1.data.toList.length).length + y.1.data.toList.length) = _ := drop_eat (drop_eat hd)
        generalize p' + (vputL y.1.data.toList.length).length + y.1.data.toList.length = q1 at hs he1
        obtain ⟨b71, o71, hb71, hc71⟩ := hs.ownCells 0 rfl (by rw [bytesL_len]; omega)
        simp only at hb71
        subst hb71
        clear hc71
        replace hs := hs.arr [1, 0, 2, 3, 4, 5] 6 (by decide)
        clear hK
        have hK := hs.suffix 6 rfl
        refine lw_nil ⟨hK, ?_⟩
        refine aw_ready [1, 4, 6] (by kernel_rfl) (by simp) ?_
        refine ⟨⟨_, rfl, ?_⟩, ⟨_, rfl, ?_⟩, ⟨_, rfl, ?_⟩, trivial⟩
        · skip
          refine lw_val rfl (run_load Tryz.underlying34 rfl rfl (hs.cellAt 4 rfl rfl)) ?_
          clear hK
          have hK := (show Mem g w L from by first | exact hs.suffix 5 rfl | exact hs.suffix 6 rfl | exact hs.suffix 7 rfl)
          refine lw_nil ⟨hK, ?_⟩
          refine aw_ready [4, 6] (by kernel_rfl) (by simp) ?_
          refine ⟨⟨_, rfl, ?_⟩, ⟨_, rfl, ?_⟩, trivial⟩
          · skip
            refine lw_val rfl (run_bytesStr Tryz.underlying64 Tryz.underlying5 Tryz.underlying9 rfl rfl (fun j v hj => hs.ownAt 1 rfl hj)) ?_
            clear hK
            have hK := hs.suffix 6 rfl
            refine lw_nil ⟨hK, ?_⟩
            refine aw_ready [6] (by kernel_rfl) (by simp) ?_
            refine ⟨⟨_, rfl, ?_⟩, trivial⟩
            refine lw_call rfl en117 (numOK_sl (most := 4611686018427387904) hW hs (by omega) he1 (by omega) (by omega)) ?_
            clear hs
            rintro _ w ⟨rfl, hs⟩
            have he2 : B.drop (q1 + (vputL y.2.1.toNat).length) = _ := drop_eat he1
            generalize q1 + (vputL y.2.1.toNat).length = q2 at hs he2
            clear hK
            have hK := hs.suffix 6 rfl
            refine lw_nil ⟨hK, ?_⟩
            refine aw_take 7 rfl (by kernel_rfl) (by kernel_rfl) (by kernel_rfl) rfl (fun w hs => run_convIn Tryz.underlying172 Tryz.underlying3 rfl (c := y.2.1) (wrapZ hpo.1 (by omega))) hK ?_
            refine aw_ready [9] (by kernel_rfl) (by simp) ?_
            refine ⟨⟨_, rfl, ?_⟩, trivial⟩
            refine lw_call rfl en117 (numOK_sl (most := 4294967295) hW hs (by omega) he2 (by omega) (by omega)) ?_
            clear hs
            rintro _ w ⟨rfl, hs⟩
            have he3 : B.drop (q2 + (vputL y.2.2).length) = _ := drop_eat he2
            generalize q2 + (vputL y.2.2).length = q3 at hs he3
            clear hK
            have hK := hs.suffix 6 rfl
            refine lw_nil ⟨hK, ?_⟩
            refine aw_take 10 rfl (by kernel_rfl) (by kernel_rfl) (by kernel_rfl) rfl (fun w hs => run_convIn Tryz.underlying172 Tryz.underlying39 rfl (c := ((y.2.2 : Nat) : Int)) (by simp [IntKind.wrap, IntKind.bits, IntKind.signed]; omega)) hK ?_
            refine aw_take 11 rfl (by kernel_rfl) (by kernel_rfl) (by kernel_rfl) rfl (fun w hs => run_buildF ([.string y.1, .int .i64 y.2.1, .int .u32 ((y.2.2 : Nat) : Int)]) Tryz.underlying41 ze41 pl41 rfl (by simp [Value.cells]) rfl rfl) hK ?_
            refine aw_ready [12] (by kernel_rfl) (by simp) ?_
            refine ⟨⟨_, rfl, ?_⟩, trivial⟩
            refine lw_buildRow hs rfl (row := obL y) Tryz.underlying34 zsOb rfl (fill_ob1 y.1 y.2.1 y.2.2) (by decide) (by decide) ?_
            clear hs
            intro b80 w hs
            clear hK
            have hK := hs.suffix 7 rfl
            refine lw_nil ⟨hK, ?_⟩
            refine aw_ready [13] (by kernel_rfl) (by simp) ?_
            refine ⟨⟨_, rfl, ?_⟩, trivial⟩
            refine lw_appendRow hs rfl 3 0 rfl rfl Tryz.underlying34 Tryz.underlying34 in41 rfl rfl (by rfl) rfl rfl (by simp only [List.length_map, List.length_take]; omega) (by simp only [List.length_map, List.length_take]; omega) ?_
            clear hs
            intro a81 c81 w hs
            simp only [List.set_cons_succ, List.set_cons_zero] at hs
            clear hK
            have hK := hs.suffix 7 rfl
            refine lw_nil ⟨hK, ?_⟩
            refine aw_take 14 rfl (by kernel_rfl) (by kernel_rfl) (by kernel_rfl) rfl (fun w hs => run_fieldAddr (o' := 5) Tryz.underlying36 rfl sz34 rfl rfl rfl) hK ?_
            refine aw_ready [15] (by kernel_rfl) (by simp) ?_
            refine ⟨⟨_, rfl, ?_⟩, trivial⟩
            refine lw_store (v := .slice _ _ _) hs 5 rfl sz34 rfl rfl rfl rfl ?_
            clear hs
            intro w hs
            try simp only [List.set_cons_succ, List.set_cons_zero] at hs
            clear hK
            have hK := hs.suffix 7 rfl
            refine lw_nil ⟨hK, ?_⟩
            refine aw_done (by kernel_rfl) ?_
            clear hK
            refine cw_region ?_
            refine lw_val rfl (run_move (v := .int .u64 _) rfl) ?_
            refine lw_val rfl (run_sub rfl rfl) ?_
            refine lw_val rfl (run_assign (v := .int .u64 _) rfl) ?_
            refine lw_nil ?_
            have hw : IntKind.u64.wrap (((m.obs.length - k : Nat) : Int) - 1) = ((m.obs.length - (k + 1) : Nat) : Int) := by rw [wrap_u64]; omega
            have hl : ((m.obs.take k).map obL).length = k := by rw [List.length_map, List.length_take]; omega
            rw [hl] at hs
            exact ⟨(k + 1, (a81, c81), q3), by simp only; omega, ⟨by simp only; omega, he3, by simp only [List.take_add_one, hy, Option.toList, List.map_append, List.map_cons, List.map_nil]; exact hs.arr [1, 3, 4, 5, 6] 7 (by decide)⟩, ⟨congrArg (Value.int .u64) hw, trivial⟩, by repeat (first | exact Out.mix _ _ _ | refine Out.updo rfl ?_ | refine Out.upd rfl ?_ | refine Out.mixIn rfl ?_)⟩
          · skip
            refine lw_call rfl en117 (numOK_sl (most := 4611686018427387904) hW hs (by omega) he1 (by omega) (by omega)) ?_
            clear hs
            rintro _ w ⟨rfl, hs⟩
            have he2 : B.drop (q1 + (vputL y.2.1.toNat).length) = _ := drop_eat he1
            generalize q1 + (vputL y.2.1.toNat).length = q2 at hs he2
            clear hK
            have hK := hs.suffix 6 rfl
            refine lw_nil ⟨hK, ?_⟩
            refine aw_take 7 rfl (by kernel_rfl) (by kernel_rfl) (by kernel_rfl) rfl (fun w hs => run_convIn Tryz.underlying172 Tryz.underlying3 rfl (c := y.2.1) (wrapZ hpo.1 (by omega))) hK ?_
            refine aw_ready [4, 9] (by kernel_rfl) (by simp) ?_
            refine ⟨⟨_, rfl, ?_⟩, ⟨_, rfl, ?_⟩, trivial⟩
            · skip
              refine lw_val rfl (run_bytesStr Tryz.underlying64 Tryz.underlying5 Tryz.underlying9 rfl rfl (fun j v hj => hs.ownAt 1 rfl hj)) ?_
              clear hK
              have hK := hs.suffix 6 rfl
              refine lw_nil ⟨hK, ?_⟩
              refine aw_ready [9] (by kernel_rfl) (by simp) ?_
              refine ⟨⟨_, rfl, ?_⟩, trivial⟩
              refine lw_call rfl en117 (numOK_sl (most := 4294967295) hW hs (by omega) he2 (by omega) (by omega)) ?_
              clear hs
              rintro _ w ⟨rfl, hs⟩
              have he3 : B.drop (q2 + (vputL y.2.2).length) = _ := drop_eat he2
              generalize q2 + (vputL y.2.2).length = q3 at hs he3
              clear hK
              have hK := hs.suffix 6 rfl
              refine lw_nil ⟨hK, ?_⟩
              refine aw_take 10 rfl (by kernel_rfl) (by kernel_rfl) (by kernel_rfl) rfl (fun w hs => run_convIn Tryz.underlying172 Tryz.underlying39 rfl (c := ((y.2.2 : Nat) : Int)) (by simp [IntKind.wrap, IntKind.bits, IntKind.signed]; omega)) hK ?_
              refine aw_take 11 rfl (by kernel_rfl) (by kernel_rfl) (by kernel_rfl) rfl (fun w hs => run_buildF ([.string y.1, .int .i64 y.2.1, .int .u32 ((y.2.2 : Nat) : Int)]) Tryz.underlying41 ze41 pl41 rfl (by simp [Value.cells]) rfl rfl) hK ?_
              refine aw_ready [12] (by kernel_rfl) (by simp) ?_
              refine ⟨⟨_, rfl, ?_⟩, trivial⟩
              refine lw_buildRow hs rfl (row := obL y) Tryz.underlying34 zsOb rfl (fill_ob1 y.1 y.2.1 y.2.2) (by decide) (by decide) ?_
              clear hs
              intro b80 w hs
              clear hK
              have hK := hs.suffix 7 rfl
              refine lw_nil ⟨hK, ?_⟩
              refine aw_ready [13] (by kernel_rfl) (by simp) ?_
              refine ⟨⟨_, rfl, ?_⟩, trivial⟩
              refine lw_appendRow hs rfl 3 0 rfl rfl Tryz.underlying34 Tryz.underlying34 in41 rfl rfl (by rfl) rfl rfl (by simp only [List.length_map, List.length_take]; omega) (by simp only [List.length_map, List.length_take]; omega) ?_
              clear hs
              intro a81 c81 w hs
              simp only [List.set_cons_succ, List.set_cons_zero] at hs
              clear hK
              have hK := hs.suffix 7 rfl
              refine lw_nil ⟨hK, ?_⟩
              refine aw_take 14 rfl (by kernel_rfl) (by kernel_rfl) (by kernel_rfl) rfl (fun w hs => run_fieldAddr (o' := 5) Tryz.underlying36 rfl sz34 rfl rfl rfl) hK ?_
              refine aw_ready [15] (by kernel_rfl) (by simp) ?_
              refine ⟨⟨_, rfl, ?_⟩, trivial⟩
              refine lw_store (v := .slice _ _ _) hs 5 rfl sz34 rfl rfl rfl rfl ?_
              clear hs
              intro w hs
              try simp only [List.set_cons_succ, List.set_cons_zero] at hs
              clear hK
              have hK := hs.suffix 7 rfl
              refine lw_nil ⟨hK, ?_⟩
              refine aw_done (by kernel_rfl) ?_
              clear hK
              refine cw_region ?_
              refine lw_val rfl (run_move (v := .int .u64 _) rfl) ?_
              refine lw_val rfl (run_sub rfl rfl) ?_
              refine lw_val rfl (run_assign (v := .int .u64 _) rfl) ?_
              refine lw_nil ?_
              have hw : IntKind.u64.wrap (((m.obs.length - k : Nat) : Int) - 1) = ((m.obs.length - (k + 1) : Nat) : Int) := by rw [wrap_u64]; omega
              have hl : ((m.obs.take k).map obL).length = k := by rw [List.length_map, List.length_take]; omega
              rw [hl] at hs
              exact ⟨(k + 1, (a81, c81), q3), by simp only; omega, ⟨by simp only; omega, he3, by simp only [List.take_add_one, hy, Option.toList, List.map_append, List.map_cons, List.map_nil]; exact hs.arr [1, 3, 4, 5, 6] 7 (by decide)⟩, ⟨congrArg (Value.int .u64) hw, trivial⟩, by repeat (first | exact Out.mix _ _ _ | refine Out.updo rfl ?_ | refine Out.upd rfl ?_ | refine Out.mixIn rfl ?_)⟩
            · skip
              refine lw_call rfl en117 (numOK_sl (most := 4294967295) hW hs (by omega) he2 (by omega) (by omega)) ?_
              clear hs
              rintro _ w ⟨rfl, hs⟩
              have he3 : B.drop (q2 + (vputL y.2.2).length) = _ := drop_eat he2
              generalize q2 + (vputL y.2.2).length = q3 at hs he3
              clear hK
              have hK := hs.suffix 6 rfl
              refine lw_nil ⟨hK, ?_⟩
              refine aw_take 10 rfl (by kernel_rfl) (by kernel_rfl) (by kernel_rfl) rfl (fun w hs => run_convIn Tryz.underlying172 Tryz.underlying39 rfl (c := ((y.2.2 : Nat) : Int)) (by simp [IntKind.wrap, IntKind.bits, IntKind.signed]; omega)) hK ?_
              refine aw_ready [4] (by kernel_rfl) (by simp) ?_
              refine ⟨⟨_, rfl, ?_⟩, trivial⟩
              refine lw_val rfl (run_bytesStr Tryz.underlying64 Tryz.underlying5 Tryz.underlying9 rfl rfl (fun j v hj => hs.ownAt 1 rfl hj)) ?_
              clear hK
              have hK := hs.suffix 6 rfl
              refine lw_nil ⟨hK, ?_⟩
              refine aw_take 11 rfl (by kernel_rfl) (by kernel_rfl) (by kernel_rfl) rfl (fun w hs => run_buildF ([.string y.1, .int .i64 y.2.1, .int .u32 ((y.2.2 : Nat) : Int)]) Tryz.underlying41 ze41 pl41 rfl (by simp [Value.cells]) rfl rfl) hK ?_
              refine aw_ready [12] (by kernel_rfl) (by simp) ?_
              refine ⟨⟨_, rfl, ?_⟩, trivial⟩
              refine lw_buildRow hs rfl (row := obL y) Tryz.underlying34 zsOb rfl (fill_ob1 y.1 y.2.1 y.2.2) (by decide) (by decide) ?_
              clear hs
              intro b80 w hs
              clear hK
              have hK := hs.suffix 7 rfl
              refine lw_nil ⟨hK, ?_⟩
              refine aw_ready [13] (by kernel_rfl) (by simp) ?_
              refine ⟨⟨_, rfl, ?_⟩, trivial⟩
              refine lw_appendRow hs rfl 3 0 rfl rfl Tryz.underlying34 Tryz.underlying34 in41 rfl rfl (by rfl) rfl rfl (by simp only [List.length_map, List.length_take]; omega) (by simp only [List.length_map, List.length_take]; omega) ?_
              clear hs
              intro a81 c81 w hs
              simp only [List.set_cons_succ, List.set_cons_zero] at hs
              clear hK
              have hK := hs.suffix 7 rfl
              refine lw_nil ⟨hK, ?_⟩
              refine aw_take 14 rfl (by kernel_rfl) (by kernel_rfl) (by kernel_rfl) rfl (fun w hs => run_fieldAddr (o' := 5) Tryz.underlying36 rfl sz34 rfl rfl rfl) hK ?_
              refine aw_ready [15] (by kernel_rfl) (by simp) ?_
              refine ⟨⟨_, rfl, ?_⟩, trivial⟩
              refine lw_store (v := .slice _ _ _) hs 5 rfl sz34 rfl rfl rfl rfl ?_
              clear hs
              intro w hs
              try simp only [List.set_cons_succ, List.set_cons_zero] at hs
              clear hK
              have hK := hs.suffix 7 rfl
              refine lw_nil ⟨hK, ?_⟩
              refine aw_done (by kernel_rfl) ?_
              clear hK
              refine cw_region ?_
              refine lw_val rfl (run_move (v := .int .u64 _) rfl) ?_
              refine lw_val rfl (run_sub rfl rfl) ?_
              refine lw_val rfl (run_assign (v := .int .u64 _) rfl) ?_
              refine lw_nil ?_
              have hw : IntKind.u64.wrap (((m.obs.length - k : Nat) : Int) - 1) = ((m.obs.length - (k + 1) : Nat) : Int) := by rw [wrap_u64]; omega
              have hl : ((m.obs.take k).map obL).length = k := by rw [List.length_map, List.length_take]; omega
              rw [hl] at hs
              exact ⟨(k + 1, (a81, c81), q3), by simp only; omega, ⟨by simp only; omega, he3, by simp only [List.take_add_one, hy, Option.toList, List.map_append, List.map_cons, List.map_nil]; exact hs.arr [1, 3, 4, 5, 6] 7 (by decide)⟩, ⟨congrArg (Value.int .u64) hw, trivial⟩, by repeat (first | exact Out.mix _ _ _ | refine Out.updo rfl ?_ | refine Out.upd rfl ?_ | refine Out.mixIn rfl ?_)⟩
        · skip
          refine lw_val rfl (run_bytesStr Tryz.underlying64 Tryz.underlying5 Tryz.underlying9 rfl rfl (fun j v hj => hs.ownAt 1 rfl hj)) ?_
          clear hK
          have hK := hs.suffix 6 rfl
          refine lw_nil ⟨hK, ?_⟩
          refine aw_ready [1, 6] (by kernel_rfl) (by simp) ?_
          refine ⟨⟨_, rfl, ?_⟩, ⟨_, rfl, ?_⟩, trivial⟩
          · skip
            refine lw_val rfl (run_load Tryz.underlying34 rfl rfl (hs.cellAt 4 rfl rfl)) ?_
            clear hK
            have hK := (show Mem g w L from by first | exact hs.suffix 5 rfl | exact hs.suffix 6 rfl | exact hs.suffix 7 rfl)
            refine lw_nil ⟨hK, ?_⟩
            refine aw_ready [6] (by kernel_rfl) (by simp) ?_
            refine ⟨⟨_, rfl, ?_⟩, trivial⟩
            refine lw_call rfl en117 (numOK_sl (most := 4611686018427387904) hW hs (by omega) he1 (by omega) (by omega)) ?_
            clear hs
            rintro _ w ⟨rfl, hs⟩
            have he2 : B.drop (q1 + (vputL y.2.1.toNat).length) = _ := drop_eat he1
            generalize q1 + (vputL y.2.1.toNat).length = q2 at hs he2
            clear hK
            have hK := hs.suffix 6 rfl
            refine lw_nil ⟨hK, ?_⟩
            refine aw_take 7 rfl (by kernel_rfl) (by kernel_rfl) (by kernel_rfl) rfl (fun w hs => run_convIn Tryz.underlying172 Tryz.underlying3 rfl (c := y.2.1) (wrapZ hpo.1 (by omega))) hK ?_
            refine aw_ready [9] (by kernel_rfl) (by simp) ?_
            refine ⟨⟨_, rfl, ?_⟩, trivial⟩
            refine lw_call rfl en117 (numOK_sl (most := 4294967295) hW hs (by omega) he2 (by omega) (by omega)) ?_
            clear hs
            rintro _ w ⟨rfl, hs⟩
            have he3 : B.drop (q2 + (vputL y.2.2).length) = _ := drop_eat he2
            generalize q2 + (vputL y.2.2).length = q3 at hs he3
            clear hK
            have hK := hs.suffix 6 rfl
            refine lw_nil ⟨hK, ?_⟩
            refine aw_take 10 rfl (by kernel_rfl) (by kernel_rfl) (by kernel_rfl) rfl (fun w hs => run_convIn Tryz.underlying172 Tryz.underlying39 rfl (c := ((y.2.2 : Nat) : Int)) (by simp [IntKind.wrap, IntKind.bits, IntKind.signed]; omega)) hK ?_
            refine aw_take 11 rfl (by kernel_rfl) (by kernel_rfl) (by kernel_rfl) rfl (fun w hs => run_buildF ([.string y.1, .int .i64 y.2.1, .int .u32 ((y.2.2 : Nat) : Int)]) Tryz.underlying41 ze41 pl41 rfl (by simp [Value.cells]) rfl rfl) hK ?_
            refine aw_ready [12] (by kernel_rfl) (by simp) ?_
            refine ⟨⟨_, rfl, ?_⟩, trivial⟩
            refine lw_buildRow hs rfl (row := obL y) Tryz.underlying34 zsOb rfl (fill_ob1 y.1 y.2.1 y.2.2) (by decide) (by decide) ?_
            clear hs
            intro b80 w hs
            clear hK
            have hK := hs.suffix 7 rfl
            refine lw_nil ⟨hK, ?_⟩
            refine aw_ready [13] (by kernel_rfl) (by simp) ?_
            refine ⟨⟨_, rfl, ?_⟩, trivial⟩
            refine lw_appendRow hs rfl 3 0 rfl rfl Tryz.underlying34 Tryz.underlying34 in41 rfl rfl (by rfl) rfl rfl (by simp only [List.length_map, List.length_take]; omega) (by simp only [List.length_map, List.length_take]; omega) ?_
            clear hs
            intro a81 c81 w hs
            simp only [List.set_cons_succ, List.set_cons_zero] at hs
            clear hK
            have hK := hs.suffix 7 rfl
            refine lw_nil ⟨hK, ?_⟩
            refine aw_take 14 rfl (by kernel_rfl) (by kernel_rfl) (by kernel_rfl) rfl (fun w hs => run_fieldAddr (o' := 5) Tryz.underlying36 rfl sz34 rfl rfl rfl) hK ?_
            refine aw_ready [15] (by kernel_rfl) (by simp) ?_
            refine ⟨⟨_, rfl, ?_⟩, trivial⟩
            refine lw_store (v := .slice _ _ _) hs 5 rfl sz34 rfl rfl rfl rfl ?_
            clear hs
            intro w hs
            try simp only [List.set_cons_succ, List.set_cons_zero] at hs
            clear hK
            have hK := hs.suffix 7 rfl
            refine lw_nil ⟨hK, ?_⟩
            refine aw_done (by kernel_rfl) ?_
            clear hK
            refine cw_region ?_
            refine lw_val rfl (run_move (v := .int .u64 _) rfl) ?_
            refine lw_val rfl (run_sub rfl rfl) ?_
            refine lw_val rfl (run_assign (v := .int .u64 _) rfl) ?_
            refine lw_nil ?_
            have hw : IntKind.u64.wrap (((m.obs.length - k : Nat) : Int) - 1) = ((m.obs.length - (k + 1) : Nat) : Int) := by rw [wrap_u64]; omega
            have hl : ((m.obs.take k).map obL).length = k := by rw [List.length_map, List.length_take]; omega
            rw [hl] at hs
            exact ⟨(k + 1, (a81, c81), q3), by simp only; omega, ⟨by simp only; omega, he3, by simp only [List.take_add_one, hy, Option.toList, List.map_append, List.map_cons, List.map_nil]; exact hs.arr [1, 3, 4, 5, 6] 7 (by decide)⟩, ⟨congrArg (Value.int .u64) hw, trivial⟩, by repeat (first | exact Out.mix _ _ _ | refine Out.updo rfl ?_ | refine Out.upd rfl ?_ | refine Out.mixIn rfl ?_)⟩
          · skip
            refine lw_call rfl en117 (numOK_sl (most := 4611686018427387904) hW hs (by omega) he1 (by omega) (by omega)) ?_
            clear hs
            rintro _ w ⟨rfl, hs⟩
            have he2 : B.drop (q1 + (vputL y.2.1.toNat).length) = _ := drop_eat he1
            generalize q1 + (vputL y.2.1.toNat).length = q2 at hs he2
            clear hK
            have hK := hs.suffix 6 rfl
            refine lw_nil ⟨hK, ?_⟩
            refine aw_take 7 rfl (by kernel_rfl) (by kernel_rfl) (by kernel_rfl) rfl (fun w hs => run_convIn Tryz.underlying172 Tryz.underlying3 rfl (c := y.2.1) (wrapZ hpo.1 (by omega))) hK ?_
            refine aw_ready [1, 9] (by kernel_rfl) (by simp) ?_
            refine ⟨⟨_, rfl, ?_⟩, ⟨_, rfl, ?_⟩, trivial⟩
            · skip
              refine lw_val rfl (run_load Tryz.underlying34 rfl rfl (hs.cellAt 4 rfl rfl)) ?_
              clear hK
              have hK := (show Mem g w L from by first | exact hs.suffix 5 rfl | exact hs.suffix 6 rfl | exact hs.suffix 7 rfl)
              refine lw_nil ⟨hK, ?_⟩
              refine aw_ready [9] (by kernel_rfl) (by simp) ?_
              refine ⟨⟨_, rfl, ?_⟩, trivial⟩
              refine lw_call rfl en117 (numOK_sl (most := 4294967295) hW hs (by omega) he2 (by omega) (by omega)) ?_
              clear hs
              rintro _ w ⟨rfl, hs⟩
              have he3 : B.drop (q2 + (vputL y.2.2).length) = _ := drop_eat he2
              generalize q2 + (vputL y.2.2).length = q3 at hs he3
              clear hK
              have hK := hs.suffix 6 rfl
              refine lw_nil ⟨hK, ?_⟩
              refine aw_take 10 rfl (by kernel_rfl) (by kernel_rfl) (by kernel_rfl) rfl (fun w hs => run_convIn Tryz.underlying172 Tryz.underlying39 rfl (c := ((y.2.2 : Nat) : Int)) (by simp [IntKind.wrap, IntKind.bits, IntKind.signed]; omega)) hK ?_
              refine aw_take 11 rfl (by kernel_rfl) (by kernel_rfl) (by kernel_rfl) rfl (fun w hs => run_buildF ([.string y.1, .int .i64 y.2.1, .int .u32 ((y.2.2 : Nat) : Int)]) Tryz.underlying41 ze41 pl41 rfl (by simp [Value.cells]) rfl rfl) hK ?_
              refine aw_ready [12] (by kernel_rfl) (by simp) ?_
              refine ⟨⟨_, rfl, ?_⟩, trivial⟩
              refine lw_buildRow hs rfl (row := obL y) Tryz.underlying34 zsOb rfl (fill_ob1 y.1 y.2.1 y.2.2) (by decide) (by decide) ?_
              clear hs
              intro b80 w hs
              clear hK
              have hK := hs.suffix 7 rfl
              refine lw_nil ⟨hK, ?_⟩
              refine aw_ready [13] (by kernel_rfl) (by simp) ?_
              refine ⟨⟨_, rfl, ?_⟩, trivial⟩
              refine lw_appendRow hs rfl 3 0 rfl rfl Tryz.underlying34 Tryz.underlying34 in41 rfl rfl (by rfl) rfl rfl (by simp only [List.length_map, List.length_take]; omega) (by simp only [List.length_map, List.length_take]; omega) ?_
              clear hs
              intro a81 c81 w hs
              simp only [List.set_cons_succ, List.set_cons_zero] at hs
              clear hK
              have hK := hs.suffix 7 rfl
              refine lw_nil ⟨hK, ?_⟩
              refine aw_take 14 rfl (by kernel_rfl) (by kernel_rfl) (by kernel_rfl) rfl (fun w hs => run_fieldAddr (o' := 5) Tryz.underlying36 rfl sz34 rfl rfl rfl) hK ?_
              refine aw_ready [15] (by kernel_rfl) (by simp) ?_
              refine ⟨⟨_, rfl, ?_⟩, trivial⟩
              refine lw_store (v := .slice _ _ _) hs 5 rfl sz34 rfl rfl rfl rfl ?_
              clear hs
              intro w hs
              try simp only [List.set_cons_succ, List.set_cons_zero] at hs
              clear hK
              have hK := hs.suffix 7 rfl
              refine lw_nil ⟨hK, ?_⟩
              refine aw_done (by kernel_rfl) ?_
              clear hK
              refine cw_region ?_
              refine lw_val rfl (run_move (v := .int .u64 _) rfl) ?_
              refine lw_val rfl (run_sub rfl rfl) ?_
              refine lw_val rfl (run_assign (v := .int .u64 _) rfl) ?_
              refine lw_nil ?_
              have hw : IntKind.u64.wrap (((m.obs.length - k : Nat) : Int) - 1) = ((m.obs.length - (k + 1) : Nat) : Int) := by rw [wrap_u64]; omega
              have hl : ((m.obs.take k).map obL).length = k := by rw [List.length_map, List.length_take]; omega
              rw [hl] at hs
              exact ⟨(k + 1, (a81, c81), q3), by simp only; omega, ⟨by simp only; omega, he3, by simp only [List.take_add_one, hy, Option.toList, List.map_append, List.map_cons, List.map_nil]; exact hs.arr [1, 3, 4, 5, 6] 7 (by decide)⟩, ⟨congrArg (Value.int .u64) hw, trivial⟩, by repeat (first | exact Out.mix _ _ _ | refine Out.updo rfl ?_ | refine Out.upd rfl ?_ | refine Out.mixIn rfl ?_)⟩
            · skip
              refine lw_call rfl en117 (numOK_sl (most := 4294967295) hW hs (by omega) he2 (by omega) (by omega)) ?_
              clear hs
              rintro _ w ⟨rfl, hs⟩
              have he3 : B.drop (q2 + (vputL y.2.2).length) = _ := drop_eat he2
              generalize q2 + (vputL y.2.2).length = q3 at hs he3
              clear hK
              have hK := hs.suffix 6 rfl
              refine lw_nil ⟨hK, ?_⟩
              refine aw_take 10 rfl (by kernel_rfl) (by kernel_rfl) (by kernel_rfl) rfl (fun w hs => run_convIn Tryz.underlying172 Tryz.underlying39 rfl (c := ((y.2.2 : Nat) : Int)) (by simp [IntKind.wrap, IntKind.bits, IntKind.signed]; omega)) hK ?_
              refine aw_take 11 rfl (by kernel_rfl) (by kernel_rfl) (by kernel_rfl) rfl (fun w hs => run_buildF ([.string y.1, .int .i64 y.2.1, .int .u32 ((y.2.2 : Nat) : Int)]) Tryz.underlying41 ze41 pl41 rfl (by simp [Value.cells]) rfl rfl) hK ?_
              refine aw_ready [1, 12] (by kernel_rfl) (by simp) ?_
              refine ⟨⟨_, rfl, ?_⟩, ⟨_, rfl, ?_⟩, trivial⟩
              · skip
                refine lw_val rfl (run_load Tryz.underlying34 rfl rfl (hs.cellAt 4 rfl rfl)) ?_
                clear hK
                have hK := (show Mem g w L from by first | exact hs.suffix 5 rfl | exact hs.suffix 6 rfl | exact hs.suffix 7 rfl)
                refine lw_nil ⟨hK, ?_⟩
                refine aw_ready [12] (by kernel_rfl) (by simp) ?_
                refine ⟨⟨_, rfl, ?_⟩, trivial⟩
                refine lw_buildRow hs rfl (row := obL y) Tryz.underlying34 zsOb rfl (fill_ob1 y.1 y.2.1 y.2.2) (by decide) (by decide) ?_
                clear hs
                intro b80 w hs
                clear hK
                have hK := hs.suffix 7 rfl
                refine lw_nil ⟨hK, ?_⟩
                refine aw_ready [13] (by kernel_rfl) (by simp) ?_
                refine ⟨⟨_, rfl, ?_⟩, trivial⟩
                refine lw_appendRow hs rfl 3 0 rfl rfl Tryz.underlying34 Tryz.underlying34 in41 rfl rfl (by rfl) rfl rfl (by simp only [List.length_map, List.length_take]; omega) (by simp only [List.length_map, List.length_take]; omega) ?_
                clear hs
                intro a81 c81 w hs
                simp only [List.set_cons_succ, List.set_cons_zero] at hs
                clear hK
                have hK := hs.suffix 7 rfl
                refine lw_nil ⟨hK, ?_⟩
                refine aw_take 14 rfl (by kernel_rfl) (by kernel_rfl) (by kernel_rfl) rfl (fun w hs => run_fieldAddr (o' := 5) Tryz.underlying36 rfl sz34 rfl rfl rfl) hK ?_
                refine aw_ready [15] (by kernel_rfl) (by simp) ?_
                refine ⟨⟨_, rfl, ?_⟩, trivial⟩
                refine lw_store (v := .slice _ _ _) hs 5 rfl sz34 rfl rfl rfl rfl ?_
                clear hs
                intro w hs
                try simp only [List.set_cons_succ, List.set_cons_zero] at hs
                clear hK
                have hK := hs.suffix 7 rfl
                refine lw_nil ⟨hK, ?_⟩
                refine aw_done (by kernel_rfl) ?_
                clear hK
                refine cw_region ?_
                refine lw_val rfl (run_move (v := .int .u64 _) rfl) ?_
                refine lw_val rfl (run_sub rfl rfl) ?_
                refine lw_val rfl (run_assign (v := .int .u64 _) rfl) ?_
                refine lw_nil ?_
                have hw : IntKind.u64.wrap (((m.obs.length - k : Nat) : Int) - 1) = ((m.obs.length - (k + 1) : Nat) : Int) := by rw [wrap_u64]; omega
                have hl : ((m.obs.take k).map obL).length = k := by rw [List.length_map, List.length_take]; omega
                rw [hl] at hs
                exact ⟨(k + 1, (a81, c81), q3), by simp only; omega, ⟨by simp only; omega, he3, by simp only [List.take_add_one, hy, Option.toList, List.map_append, List.map_cons, List.map_nil]; exact hs.arr [1, 3, 4, 5, 6] 7 (by decide)⟩, ⟨congrArg (Value.int .u64) hw, trivial⟩, by repeat (first | exact Out.mix _ _ _ | refine Out.updo rfl ?_ | refine Out.upd rfl ?_ | refine Out.mixIn rfl ?_)⟩
              · skip
                refine lw_buildRow hs rfl (row := obL y) Tryz.underlying34 zsOb rfl (fill_ob1 y.1 y.2.1 y.2.2) (by decide) (by decide) ?_
                clear hs
                intro b80 w hs
                clear hK
                have hK := hs.suffix 7 rfl
                refine lw_nil ⟨hK, ?_⟩
                refine aw_ready [1] (by kernel_rfl) (by simp) ?_
                refine ⟨⟨_, rfl, ?_⟩, trivial⟩
                refine lw_val rfl (run_load Tryz.underlying34 rfl rfl (hs.cellAt 5 rfl rfl)) ?_
                clear hK
                have hK := (show Mem g w L from by first | exact hs.suffix 5 rfl | exact hs.suffix 6 rfl | exact hs.suffix 7 rfl)
                refine lw_nil ⟨hK, ?_⟩
                refine aw_ready [13] (by kernel_rfl) (by simp) ?_
                refine ⟨⟨_, rfl, ?_⟩, trivial⟩
                refine lw_appendRow hs rfl 3 0 rfl rfl Tryz.underlying34 Tryz.underlying34 in41 rfl rfl (by rfl) rfl rfl (by simp only [List.length_map, List.length_take]; omega) (by simp only [List.length_map, List.length_take]; omega) ?_
                clear hs
                intro a81 c81 w hs
                simp only [List.set_cons_succ, List.set_cons_zero] at hs
                clear hK
                have hK := hs.suffix 7 rfl
                refine lw_nil ⟨hK, ?_⟩
                refine aw_take 14 rfl (by kernel_rfl) (by kernel_rfl) (by kernel_rfl) rfl (fun w hs => run_fieldAddr (o' := 5) Tryz.underlying36 rfl sz34 rfl rfl rfl) hK ?_
                refine aw_ready [15] (by kernel_rfl) (by simp) ?_
                refine ⟨⟨_, rfl, ?_⟩, trivial⟩
                refine lw_store (v := .slice _ _ _) hs 5 rfl sz34 rfl rfl rfl rfl ?_
                clear hs
                intro w hs
                try simp only [List.set_cons_succ, List.set_cons_zero] at hs
                clear hK
                have hK := hs.suffix 7 rfl
                refine lw_nil ⟨hK, ?_⟩
                refine aw_done (by kernel_rfl) ?_
                clear hK
                refine cw_region ?_
                refine lw_val rfl (run_move (v := .int .u64 _) rfl) ?_
                refine lw_val rfl (run_sub rfl rfl) ?_
                refine lw_val rfl (run_assign (v := .int .u64 _) rfl) ?_
                refine lw_nil ?_
                have hw : IntKind.u64.wrap (((m.obs.length - k : Nat) : Int) - 1) = ((m.obs.length - (k + 1) : Nat) : Int) := by rw [wrap_u64]; omega
                have hl : ((m.obs.take k).map obL).length = k := by rw [List.length_map, List.length_take]; omega
                rw [hl] at hs
                exact ⟨(k + 1, (a81, c81), q3), by simp only; omega, ⟨by simp only; omega, he3, by simp only [List.take_add_one, hy, Option.toList, List.map_append, List.map_cons, List.map_nil]; exact hs.arr [1, 3, 4, 5, 6] 7 (by decide)⟩, ⟨congrArg (Value.int .u64) hw, trivial⟩, by repeat (first | exact Out.mix _ _ _ | refine Out.updo rfl ?_ | refine Out.upd rfl ?_ | refine Out.mixIn rfl ?_)⟩
        · skip
          refine lw_call rfl en117 (numOK_sl (most := 4611686018427387904) hW hs (by omega) he1 (by omega) (by omega)) ?_
          clear hs
          rintro _ w ⟨rfl, hs⟩
          have he2 : B.drop (q1 + (vputL y.2.1.toNat).length) = _ := drop_eat he1
          generalize q1 + (vputL y.2.1.toNat).length = q2 at hs he2
          clear hK
          have hK := hs.suffix 6 rfl
          refine lw_nil ⟨hK, ?_⟩
          refine aw_take 7 rfl (by kernel_rfl) (by kernel_rfl) (by kernel_rfl) rfl (fun w hs => run_convIn Tryz.underlying172 Tryz.underlying3 rfl (c := y.2.1) (wrapZ hpo.1 (by omega))) hK ?_
          refine aw_ready [1, 4, 9] (by kernel_rfl) (by simp) ?_
          refine ⟨⟨_, rfl, ?_⟩, ⟨_, rfl, ?_⟩, ⟨_, rfl, ?_⟩, trivial⟩
          · skip
            refine lw_val rfl (run_load Tryz.underlying34 rfl rfl (hs.cellAt 4 rfl rfl)) ?_
            clear hK
            have hK := (show Mem g w L from by first | exact hs.suffix 5 rfl | exact hs.suffix 6 rfl | exact hs.suffix 7 rfl)
            refine lw_nil ⟨hK, ?_⟩
            refine aw_ready [4, 9] (by kernel_rfl) (by simp) ?_
            refine ⟨⟨_, rfl, ?_⟩, ⟨_, rfl, ?_⟩, trivial⟩
            · skip
              refine lw_val rfl (run_bytesStr Tryz.underlying64 Tryz.underlying5 Tryz.underlying9 rfl rfl (fun j v hj => hs.ownAt 1 rfl hj)) ?_
              clear hK
              have hK := hs.suffix 6 rfl
              refine lw_nil ⟨hK, ?_⟩
              refine aw_ready [9] (by kernel_rfl) (by simp) ?_
              refine ⟨⟨_, rfl, ?_⟩, trivial⟩
              refine lw_call rfl en117 (numOK_sl (most := 4294967295) hW hs (by omega) he2 (by omega) (by omega)) ?_
              clear hs
              rintro _ w ⟨rfl, hs⟩
              have he3 : B.drop (q2 + (vputL y.2.2).length) = _ := drop_eat he2
              generalize q2 + (vputL y.2.2).length = q3 at hs he3
              clear hK
              have hK := hs.suffix 6 rfl
              refine lw_nil ⟨hK, ?_⟩
              refine aw_take 10 rfl (by kernel_rfl) (by kernel_rfl) (by kernel_rfl) rfl (fun w hs => run_convIn Tryz.underlying172 Tryz.underlying39 rfl (c := ((y.2.2 : Nat) : Int)) (by simp [IntKind.wrap, IntKind.bits, IntKind.signed]; omega)) hK ?_
              refine aw_take 11 rfl (by kernel_rfl) (by kernel_rfl) (by kernel_rfl) rfl (fun w hs => run_buildF ([.string y.1, .int .i64 y.2.1, .int .u32 ((y.2.2 : Nat) : Int)]) Tryz.underlying41 ze41 pl41 rfl (by simp [Value.cells]) rfl rfl) hK ?_
              refine aw_ready [12] (by kernel_rfl) (by simp) ?_
              refine ⟨⟨_, rfl, ?_⟩, trivial⟩
              refine lw_buildRow hs rfl (row := obL y) Tryz.underlying34 zsOb rfl (fill_ob1 y.1 y.2.1 y.2.2) (by decide) (by decide) ?_
              clear hs
              intro b80 w hs
              clear hK
              have hK := hs.suffix 7 rfl
              refine lw_nil ⟨hK, ?_⟩
              refine aw_ready [13] (by kernel_rfl) (by simp) ?_
              refine ⟨⟨_, rfl, ?_⟩, trivial⟩
              refine lw_appendRow hs rfl 3 0 rfl rfl Tryz.underlying34 Tryz.underlying34 in41 rfl rfl (by rfl) rfl rfl (by simp only [List.length_map, List.length_take]; omega) (by simp only [List.length_map, List.length_take]; omega) ?_
              clear hs
              intro a81 c81 w hs
              simp only [List.set_cons_succ, List.set_cons_zero] at hs
              clear hK
              have hK := hs.suffix 7 rfl
              refine lw_nil ⟨hK, ?_⟩
              refine aw_take 14 rfl (by kernel_rfl) (by kernel_rfl) (by kernel_rfl) rfl (fun w hs => run_fieldAddr (o' := 5) Tryz.underlying36 rfl sz34 rfl rfl rfl) hK ?_
              refine aw_ready [15] (by kernel_rfl) (by simp) ?_
              refine ⟨⟨_, rfl, ?_⟩, trivial⟩
              refine lw_store (v := .slice _ _ _) hs 5 rfl sz34 rfl rfl rfl rfl ?_
              clear hs
              intro w hs
              try simp only [List.set_cons_succ, List.set_cons_zero] at hs
              clear hK
              have hK := hs.suffix 7 rfl
              refine lw_nil ⟨hK, ?_⟩
              refine aw_done (by kernel_rfl) ?_
              clear hK
              refine cw_region ?_
              refine lw_val rfl (run_move (v := .int .u64 _) rfl) ?_
              refine lw_val rfl (run_sub rfl rfl) ?_
              refine lw_val rfl (run_assign (v := .int .u64 _) rfl) ?_
              refine lw_nil ?_
              have hw : IntKind.u64.wrap (((m.obs.length - k : Nat) : Int) - 1) = ((m.obs.length - (k + 1) : Nat) : Int) := by rw [wrap_u64]; omega
              have hl : ((m.obs.take k).map obL).length = k := by rw [List.length_map, List.length_take]; omega
              rw [hl] at hs
              exact ⟨(k + 1, (a81, c81), q3), by simp only; omega, ⟨by simp only; omega, he3, by simp only [List.take_add_one, hy, Option.toList, List.map_append, List.map_cons, List.map_nil]; exact hs.arr [1, 3, 4, 5, 6] 7 (by decide)⟩, ⟨congrArg (Value.int .u64) hw, trivial⟩, by repeat (first | exact Out.mix _ _ _ | refine Out.updo rfl ?_ | refine Out.upd rfl ?_ | refine Out.mixIn rfl ?_)⟩
            · skip
              refine lw_call rfl en117 (numOK_sl (most := 4294967295) hW hs (by omega) he2 (by omega) (by omega)) ?_
              clear hs
              rintro _ w ⟨rfl, hs⟩
              have he3 : B.drop (q2 + (vputL y.2.2).length) = _ := drop_eat he2
              generalize q2 + (vputL y.2.2).length = q3 at hs he3
              clear hK
              have hK := hs.suffix 6 rfl
              refine lw_nil ⟨hK, ?_⟩
              refine aw_take 10 rfl (by kernel_rfl) (by kernel_rfl) (by kernel_rfl) rfl (fun w hs => run_convIn Tryz.underlying172 Tryz.underlying39 rfl (c := ((y.2.2 : Nat) : Int)) (by simp [IntKind.wrap, IntKind.bits, IntKind.signed]; omega)) hK ?_
              refine aw_ready [4] (by kernel_rfl) (by simp) ?_
              refine ⟨⟨_, rfl, ?_⟩, trivial⟩
              refine lw_val rfl (run_bytesStr Tryz.underlying64 Tryz.underlying5 Tryz.underlying9 rfl rfl (fun j v hj => hs.ownAt 1 rfl hj)) ?_
              clear hK
              have hK := hs.suffix 6 rfl
              refine lw_nil ⟨hK, ?_⟩
              refine aw_take 11 rfl (by kernel_rfl) (by kernel_rfl) (by kernel_rfl) rfl (fun w hs => run_buildF ([.string y.1, .int .i64 y.2.1, .int .u32 ((y.2.2 : Nat) : Int)]) Tryz.underlying41 ze41 pl41 rfl (by simp [Value.cells]) rfl rfl) hK ?_
              refine aw_ready [12] (by kernel_rfl) (by simp) ?_
              refine ⟨⟨_, rfl, ?_⟩, trivial⟩
              refine lw_buildRow hs rfl (row := obL y) Tryz.underlying34 zsOb rfl (fill_ob1 y.1 y.2.1 y.2.2) (by decide) (by decide) ?_
              clear hs
              intro b80 w hs
              clear hK
              have hK := hs.suffix 7 rfl
              refine lw_nil ⟨hK, ?_⟩
              refine aw_ready [13] (by kernel_rfl) (by simp) ?_
              refine ⟨⟨_, rfl, ?_⟩, trivial⟩
              refine lw_appendRow hs rfl 3 0 rfl rfl Tryz.underlying34 Tryz.underlying34 in41 rfl rfl (by rfl) rfl rfl (by simp only [List.length_map, List.length_take]; omega) (by simp only [List.length_map, List.length_take]; omega) ?_
              clear hs
              intro a81 c81 w hs
              simp only [List.set_cons_succ, List.set_cons_zero] at hs
              clear hK
              have hK := hs.suffix 7 rfl
              refine lw_nil ⟨hK, ?_⟩
              refine aw_take 14 rfl (by kernel_rfl) (by kernel_rfl) (by kernel_rfl) rfl (fun w hs => run_fieldAddr (o' := 5) Tryz.underlying36 rfl sz34 rfl rfl rfl) hK ?_
              refine aw_ready [15] (by kernel_rfl) (by simp) ?_
              refine ⟨⟨_, rfl, ?_⟩, trivial⟩
              refine lw_store (v := .slice _ _ _) hs 5 rfl sz34 rfl rfl rfl rfl ?_
              clear hs
              intro w hs
              try simp only [List.set_cons_succ, List.set_cons_zero] at hs
              clear hK
              have hK := hs.suffix 7 rfl
              refine lw_nil ⟨hK, ?_⟩
              refine aw_done (by kernel_rfl) ?_
              clear hK
              refine cw_region ?_
              refine lw_val rfl (run_move (v := .int .u64 _) rfl) ?_
              refine lw_val rfl (run_sub rfl rfl) ?_
              refine lw_val rfl (run_assign (v := .int .u64 _) rfl) ?_
              refine lw_nil ?_
              have hw : IntKind.u64.wrap (((m.obs.length - k : Nat) : Int) - 1) = ((m.obs.length - (k + 1) : Nat) : Int) := by rw [wrap_u64]; omega
              have hl : ((m.obs.take k).map obL).length = k := by rw [List.length_map, List.length_take]; omega
              rw [hl] at hs
              exact ⟨(k + 1, (a81, c81), q3), by simp only; omega, ⟨by simp only; omega, he3, by simp only [List.take_add_one, hy, Option.toList, List.map_append, List.map_cons, List.map_nil]; exact hs.arr [1, 3, 4, 5, 6] 7 (by decide)⟩, ⟨congrArg (Value.int .u64) hw, trivial⟩, by repeat (first | exact Out.mix _ _ _ | refine Out.updo rfl ?_ | refine Out.upd rfl ?_ | refine Out.mixIn rfl ?_)⟩
          · skip
            refine lw_val rfl (run_bytesStr Tryz.underlying64 Tryz.underlying5 Tryz.underlying9 rfl rfl (fun j v hj => hs.ownAt 1 rfl hj)) ?_
            clear hK
            have hK := hs.suffix 6 rfl
            refine lw_nil ⟨hK, ?_⟩
            refine aw_ready [1, 9] (by kernel_rfl) (by simp) ?_
            refine ⟨⟨_, rfl, ?_⟩, ⟨_, rfl, ?_⟩, trivial⟩
            · skip
              refine lw_val rfl (run_load Tryz.underlying34 rfl rfl (hs.cellAt 4 rfl rfl)) ?_
              clear hK
              have hK := (show Mem g w L from by first | exact hs.suffix 5 rfl | exact hs.suffix 6 rfl | exact hs.suffix 7 rfl)
              refine lw_nil ⟨hK, ?_⟩
              refine aw_ready [9] (by kernel_rfl) (by simp) ?_
              refine ⟨⟨_, rfl, ?_⟩, trivial⟩
              refine lw_call rfl en117 (numOK_sl (most := 4294967295) hW hs (by omega) he2 (by omega) (by omega)) ?_
              clear hs
              rintro _ w ⟨rfl, hs⟩
              have he3 : B.drop (q2 + (vputL y.2.2).length) = _ := drop_eat he2
              generalize q2 + (vputL y.2.2).length = q3 at hs he3
              clear hK
              have hK := hs.suffix 6 rfl
              refine lw_nil ⟨hK, ?_⟩
              refine aw_take 10 rfl (by kernel_rfl) (by kernel_rfl) (by kernel_rfl) rfl (fun w hs => run_convIn Tryz.underlying172 Tryz.underlying39 rfl (c := ((y.2.2 : Nat) : Int)) (by simp [IntKind.wrap, IntKind.bits, IntKind.signed]; omega)) hK ?_
              refine aw_take 11 rfl (by kernel_rfl) (by kernel_rfl) (by kernel_rfl) rfl (fun w hs => run_buildF ([.string y.1, .int .i64 y.2.1, .int .u32 ((y.2.2 : Nat) : Int)]) Tryz.underlying41 ze41 pl41 rfl (by simp [Value.cells]) rfl rfl) hK ?_
              refine aw_ready [12] (by kernel_rfl) (by simp) ?_
              refine ⟨⟨_, rfl, ?_⟩, trivial⟩
              refine lw_buildRow hs rfl (row := obL y) Tryz.underlying34 zsOb rfl (fill_ob1 y.1 y.2.1 y.2.2) (by decide) (by decide) ?_
              clear hs
              intro b80 w hs
              clear hK
              have hK := hs.suffix 7 rfl
              refine lw_nil ⟨hK, ?_⟩
              refine aw_ready [13] (by kernel_rfl) (by simp) ?_
              refine ⟨⟨_, rfl, ?_⟩, trivial⟩
              refine lw_appendRow hs rfl 3 0 rfl rfl Tryz.underlying34 Tryz.underlying34 in41 rfl rfl (by rfl) rfl rfl (by simp only [List.length_map, List.length_take]; omega) (by simp only [List.length_map, List.length_take]; omega) ?_
              clear hs
              intro a81 c81 w hs
              simp only [List.set_cons_succ, List.set_cons_zero] at hs
              clear hK
              have hK := hs.suffix 7 rfl
              refine lw_nil ⟨hK, ?_⟩
              refine aw_take 14 rfl (by kernel_rfl) (by kernel_rfl) (by kernel_rfl) rfl (fun w hs => run_fieldAddr (o' := 5) Tryz.underlying36 rfl sz34 rfl rfl rfl) hK ?_
              refine aw_ready [15] (by kernel_rfl) (by simp) ?_
              refine ⟨⟨_, rfl, ?_⟩, trivial⟩
              refine lw_store (v := .slice _ _ _) hs 5 rfl sz34 rfl rfl rfl rfl ?_
              clear hs
              intro w hs
              try simp only [List.set_cons_succ, List.set_cons_zero] at hs
              clear hK
              have hK := hs.suffix 7 rfl
              refine lw_nil ⟨hK, ?_⟩
              refine aw_done (by kernel_rfl) ?_
              clear hK
              refine cw_region ?_
              refine lw_val rfl (run_move (v := .int .u64 _) rfl) ?_
              refine lw_val rfl (run_sub rfl rfl) ?_
              refine lw_val rfl (run_assign (v := .int .u64 _) rfl) ?_
              refine lw_nil ?_
              have hw : IntKind.u64.wrap (((m.obs.length - k : Nat) : Int) - 1) = ((m.obs.length - (k + 1) : Nat) : Int) := by rw [wrap_u64]; omega
              have hl : ((m.obs.take k).map obL).length = k := by rw [List.length_map, List.length_take]; omega
              rw [hl] at hs
              exact ⟨(k + 1, (a81, c81), q3), by simp only; omega, ⟨by simp only; omega, he3, by simp only [List.take_add_one, hy, Option.toList, List.map_append, List.map_cons, List.map_nil]; exact hs.arr [1, 3, 4, 5, 6] 7 (by decide)⟩, ⟨congrArg (Value.int .u64) hw, trivial⟩, by repeat (first | exact Out.mix _ _ _ | refine Out.updo rfl ?_ | refine Out.upd rfl ?_ | refine Out.mixIn rfl ?_)⟩
            · skip
              refine lw_call rfl en117 (numOK_sl (most := 4294967295) hW hs (by omega) he2 (by omega) (by omega)) ?_
              clear hs
              rintro _ w ⟨rfl, hs⟩
              have he3 : B.drop (q2 + (vputL y.2.2).length) = _ := drop_eat he2
              generalize q2 + (vputL y.2.2).length = q3 at hs he3
              clear hK
              have hK := hs.suffix 6 rfl
              refine lw_nil ⟨hK, ?_⟩
              refine aw_take 10 rfl (by kernel_rfl) (by kernel_rfl) (by kernel_rfl) rfl (fun w hs => run_convIn Tryz.underlying172 Tryz.underlying39 rfl (c := ((y.2.2 : Nat) : Int)) (by simp [IntKind.wrap, IntKind.bits, IntKind.signed]; omega)) hK ?_
              refine aw_take 11 rfl (by kernel_rfl) (by kernel_rfl) (by kernel_rfl) rfl (fun w hs => run_buildF ([.string y.1, .int .i64 y.2.1, .int .u32 ((y.2.2 : Nat) : Int)]) Tryz.underlying41 ze41 pl41 rfl (by simp [Value.cells]) rfl rfl) hK ?_
              refine aw_ready [1, 12] (by kernel_rfl) (by simp) ?_
              refine ⟨⟨_, rfl, ?_⟩, ⟨_, rfl, ?_⟩, trivial⟩
              · skip
                refine lw_val rfl (run_load Tryz.underlying34 rfl rfl (hs.cellAt 4 rfl rfl)) ?_
                clear hK
                have hK := (show Mem g w L from by first | exact hs.suffix 5 rfl | exact hs.suffix 6 rfl | exact hs.suffix 7 rfl)
                refine lw_nil ⟨hK, ?_⟩
                refine aw_ready [12] (by kernel_rfl) (by simp) ?_
                refine ⟨⟨_, rfl, ?_⟩, trivial⟩
                refine lw_buildRow hs rfl (row := obL y) Tryz.underlying34 zsOb rfl (fill_ob1 y.1 y.2.1 y.2.2) (by decide) (by decide) ?_
                clear hs
                intro b80 w hs
                clear hK
                have hK := hs.suffix 7 rfl
                refine lw_nil ⟨hK, ?_⟩
                refine aw_ready [13] (by kernel_rfl) (by simp) ?_
                refine ⟨⟨_, rfl, ?_⟩, trivial⟩
                refine lw_appendRow hs rfl 3 0 rfl rfl Tryz.underlying34 Tryz.underlying34 in41 rfl rfl (by rfl) rfl rfl (by simp only [List.length_map, List.length_take]; omega) (by simp only [List.length_map, List.length_take]; omega) ?_
                clear hs
                intro a81 c81 w hs
                simp only [List.set_cons_succ, List.set_cons_zero] at hs
                clear hK
                have hK := hs.suffix 7 rfl
                refine lw_nil ⟨hK, ?_⟩
                refine aw_take 14 rfl (by kernel_rfl) (by kernel_rfl) (by kernel_rfl) rfl (fun w hs => run_fieldAddr (o' := 5) Tryz.underlying36 rfl sz34 rfl rfl rfl) hK ?_
                refine aw_ready [15] (by kernel_rfl) (by simp) ?_
                refine ⟨⟨_, rfl, ?_⟩, trivial⟩
                refine lw_store (v := .slice _ _ _) hs 5 rfl sz34 rfl rfl rfl rfl ?_
                clear hs
                intro w hs
                try simp only [List.set_cons_succ, List.set_cons_zero] at hs
                clear hK
                have hK := hs.suffix 7 rfl
                refine lw_nil ⟨hK, ?_⟩
                refine aw_done (by kernel_rfl) ?_
                clear hK
                refine cw_region ?_
                refine lw_val rfl (run_move (v := .int .u64 _) rfl) ?_
                refine lw_val rfl (run_sub rfl rfl) ?_
                refine lw_val rfl (run_assign (v := .int .u64 _) rfl) ?_
                refine lw_nil ?_
                have hw : IntKind.u64.wrap (((m.obs.length - k : Nat) : Int) - 1) = ((m.obs.length - (k + 1) : Nat) : Int) := by rw [wrap_u64]; omega
                have hl : ((m.obs.take k).map obL).length = k := by rw [List.length_map, List.length_take]; omega
                rw [hl] at hs
                exact ⟨(k + 1, (a81, c81), q3), by simp only; omega, ⟨by simp only; omega, he3, by simp only [List.take_add_one, hy, Option.toList, List.map_append, List.map_cons, List.map_nil]; exact hs.arr [1, 3, 4, 5, 6] 7 (by decide)⟩, ⟨congrArg (Value.int .u64) hw, trivial⟩, by repeat (first | exact Out.mix _ _ _ | refine Out.updo rfl ?_ | refine Out.upd rfl ?_ | refine Out.mixIn rfl ?_)⟩
              · skip
                refine lw_buildRow hs rfl (row := obL y) Tryz.underlying34 zsOb rfl (fill_ob1 y.1 y.2.1 y.2.2) (by decide) (by decide) ?_
                clear hs
                intro b80 w hs
                clear hK
                have hK := hs.suffix 7 rfl
                refine lw_nil ⟨hK, ?_⟩
                refine aw_ready [1] (by kernel_rfl) (by simp) ?_
                refine ⟨⟨_, rfl, ?_⟩, trivial⟩
                refine lw_val rfl (run_load Tryz.underlying34 rfl rfl (hs.cellAt 5 rfl rfl)) ?_
                clear hK
                have hK := (show Mem g w L from by first | exact hs.suffix 5 rfl | exact hs.suffix 6 rfl | exact hs.suffix 7 rfl)
                refine lw_nil ⟨hK, ?_⟩
                refine aw_ready [13] (by kernel_rfl) (by simp) ?_
                refine ⟨⟨_, rfl, ?_⟩, trivial⟩
                refine lw_appendRow hs rfl 3 0 rfl rfl Tryz.underlying34 Tryz.underlying34 in41 rfl rfl (by rfl) rfl rfl (by simp only [List.length_map, List.length_take]; omega) (by simp only [List.length_map, List.length_take]; omega) ?_
                clear hs
                intro a81 c81 w hs
                simp only [List.set_cons_succ, List.set_cons_zero] at hs
                clear hK
                have hK := hs.suffix 7 rfl
                refine lw_nil ⟨hK, ?_⟩
                refine aw_take 14 rfl (by kernel_rfl) (by kernel_rfl) (by kernel_rfl) rfl (fun w hs => run_fieldAddr (o' := 5) Tryz.underlying36 rfl sz34 rfl rfl rfl) hK ?_
                refine aw_ready [15] (by kernel_rfl) (by simp) ?_
                refine ⟨⟨_, rfl, ?_⟩, trivial⟩
                refine lw_store (v := .slice _ _ _) hs 5 rfl sz34 rfl rfl rfl rfl ?_
                clear hs
                intro w hs
                try simp only [List.set_cons_succ, List.set_cons_zero] at hs
                clear hK
                have hK := hs.suffix 7 rfl
                refine lw_nil ⟨hK, ?_⟩
                refine aw_done (by kernel_rfl) ?_
                clear hK
                refine cw_region ?_
                refine lw_val rfl (run_move (v := .int .u64 _) rfl) ?_
                refine lw_val rfl (run_sub rfl rfl) ?_
                refine lw_val rfl (run_assign (v := .int .u64 _) rfl) ?_
                refine lw_nil ?_
                have hw : IntKind.u64.wrap (((m.obs.length - k : Nat) : Int) - 1) = ((m.obs.length - (k + 1) : Nat) : Int) := by rw [wrap_u64]; omega
                have hl : ((m.obs.take k).map obL).length = k := by rw [List.length_map, List.length_take]; omega
                rw [hl] at hs
                exact ⟨(k + 1, (a81, c81), q3), by simp only; omega, ⟨by simp only; omega, he3, by simp only [List.take_add_one, hy, Option.toList, List.map_append, List.map_cons, List.map_nil]; exact hs.arr [1, 3, 4, 5, 6] 7 (by decide)⟩, ⟨congrArg (Value.int .u64) hw, trivial⟩, by repeat (first | exact Out.mix _ _ _ | refine Out.updo rfl ?_ | refine Out.upd rfl ?_ | refine Out.mixIn rfl ?_)⟩
          · skip
            refine lw_call rfl en117 (numOK_sl (most := 4294967295) hW hs (by omega) he2 (by omega) (by omega)) ?_
            clear hs
            rintro _ w ⟨rfl, hs⟩
            have he3 : B.drop (q2 + (vputL y.2.2).length) = _ := drop_eat he2
            generalize q2 + (vputL y.2.2).length = q3 at hs he3
            clear hK
            have hK := hs.suffix 6 rfl
            refine lw_nil ⟨hK, ?_⟩
            refine aw_take 10 rfl (by kernel_rfl) (by kernel_rfl) (by kernel_rfl) rfl (fun w hs => run_convIn Tryz.underlying172 Tryz.underlying39 rfl (c := ((y.2.2 : Nat) : Int)) (by simp [IntKind.wrap, IntKind.bits, IntKind.signed]; omega)) hK ?_
            refine aw_ready [1, 4] (by kernel_rfl) (by simp) ?_
            refine ⟨⟨_, rfl, ?_⟩, ⟨_, rfl, ?_⟩, trivial⟩
            · skip
              refine lw_val rfl (run_load Tryz.underlying34 rfl rfl (hs.cellAt 4 rfl rfl)) ?_
              clear hK
              have hK := (show Mem g w L from by first | exact hs.suffix 5 rfl | exact hs.suffix 6 rfl | exact hs.suffix 7 rfl)
              refine lw_nil ⟨hK, ?_⟩
              refine aw_ready [4] (by kernel_rfl) (by simp) ?_
              refine ⟨⟨_, rfl, ?_⟩, trivial⟩
              refine lw_val rfl (run_bytesStr Tryz.underlying64 Tryz.underlying5 Tryz.underlying9 rfl rfl (fun j v hj => hs.ownAt 1 rfl hj)) ?_
              clear hK
              have hK := hs.suffix 6 rfl
              refine lw_nil ⟨hK, ?_⟩
              refine aw_take 11 rfl (by kernel_rfl) (by kernel_rfl) (by kernel_rfl) rfl (fun w hs => run_buildF ([.string y.1, .int .i64 y.2.1, .int .u32 ((y.2.2 : Nat) : Int)]) Tryz.underlying41 ze41 pl41 rfl (by simp [Value.cells]) rfl rfl) hK ?_
              refine aw_ready [12] (by kernel_rfl) (by simp) ?_
              refine ⟨⟨_, rfl, ?_⟩, trivial⟩
              refine lw_buildRow hs rfl (row := obL y) Tryz.underlying34 zsOb rfl (fill_ob1 y.1 y.2.1 y.2.2) (by decide) (by decide) ?_
              clear hs
              intro b80 w hs
              clear hK
              have hK := hs.suffix 7 rfl
              refine lw_nil ⟨hK, ?_⟩
              refine aw_ready [13] (by kernel_rfl) (by simp) ?_
              refine ⟨⟨_, rfl, ?_⟩, trivial⟩
              refine lw_appendRow hs rfl 3 0 rfl rfl Tryz.underlying34 Tryz.underlying34 in41 rfl rfl (by rfl) rfl rfl (by simp only [List.length_map, List.length_take]; omega) (by simp only [List.length_map, List.length_take]; omega) ?_
              clear hs
              intro a81 c81 w hs
              simp only [List.set_cons_succ, List.set_cons_zero] at hs
              clear hK
              have hK := hs.suffix 7 rfl
              refine lw_nil ⟨hK, ?_⟩
              refine aw_take 14 rfl (by kernel_rfl) (by kernel_rfl) (by kernel_rfl) rfl (fun w hs => run_fieldAddr (o' := 5) Tryz.underlying36 rfl sz34 rfl rfl rfl) hK ?_
              refine aw_ready [15] (by kernel_rfl) (by simp) ?_
              refine ⟨⟨_, rfl, ?_⟩, trivial⟩
              refine lw_store (v := .slice _ _ _) hs 5 rfl sz34 rfl rfl rfl rfl ?_
              clear hs
              intro w hs
              try simp only [List.set_cons_succ, List.set_cons_zero] at hs
              clear hK
              have hK := hs.suffix 7 rfl
              refine lw_nil ⟨hK, ?_⟩
              refine aw_done (by kernel_rfl) ?_
              clear hK
              refine cw_region ?_
              refine lw_val rfl (run_move (v := .int .u64 _) rfl) ?_
              refine lw_val rfl (run_sub rfl rfl) ?_
              refine lw_val rfl (run_assign (v := .int .u64 _) rfl) ?_
              refine lw_nil ?_
              have hw : IntKind.u64.wrap (((m.obs.length - k : Nat) : Int) - 1) = ((m.obs.length - (k + 1) : Nat) : Int) := by rw [wrap_u64]; omega
              have hl : ((m.obs.take k).map obL).length = k := by rw [List.length_map, List.length_take]; omega
              rw [hl] at hs
              exact ⟨(k + 1, (a81, c81), q3), by simp only; omega, ⟨by simp only; omega, he3, by simp only [List.take_add_one, hy, Option.toList, List.map_append, List.map_cons, List.map_nil]; exact hs.arr [1, 3, 4, 5, 6] 7 (by decide)⟩, ⟨congrArg (Value.int .u64) hw, trivial⟩, by repeat (first | exact Out.mix _ _ _ | refine Out.updo rfl ?_ | refine Out.upd rfl ?_ | refine Out.mixIn rfl ?_)⟩
            · skip
              refine lw_val rfl (run_bytesStr Tryz.underlying64 Tryz.underlying5 Tryz.underlying9 rfl rfl (fun j v hj => hs.ownAt 1 rfl hj)) ?_
              clear hK
              have hK := hs.suffix 6 rfl
              refine lw_nil ⟨hK, ?_⟩
              refine aw_take 11 rfl (by kernel_rfl) (by kernel_rfl) (by kernel_rfl) rfl (fun w hs => run_buildF ([.string y.1, .int .i64 y.2.1, .int .u32 ((y.2.2 : Nat) : Int)]) Tryz.underlying41 ze41 pl41 rfl (by simp [Value.cells]) rfl rfl) hK ?_
              refine aw_ready [1, 12] (by kernel_rfl) (by simp) ?_
              refine ⟨⟨_, rfl, ?_⟩, ⟨_, rfl, ?_⟩, trivial⟩
              · skip
                refine lw_val rfl (run_load Tryz.underlying34 rfl rfl (hs.cellAt 4 rfl rfl)) ?_
                clear hK
                have hK := (show Mem g w L from by first | exact hs.suffix 5 rfl | exact hs.suffix 6 rfl | exact hs.suffix 7 rfl)
                refine lw_nil ⟨hK, ?_⟩
                refine aw_ready [12] (by kernel_rfl) (by simp) ?_
                refine ⟨⟨_, rfl, ?_⟩, trivial⟩
                refine lw_buildRow hs rfl (row := obL y) Tryz.underlying34 zsOb rfl (fill_ob1 y.1 y.2.1 y.2.2) (by decide) (by decide) ?_
                clear hs
                intro b80 w hs
                clear hK
                have hK := hs.suffix 7 rfl
                refine lw_nil ⟨hK, ?_⟩
                refine aw_ready [13] (by kernel_rfl) (by simp) ?_
                refine ⟨⟨_, rfl, ?_⟩, trivial⟩
                refine lw_appendRow hs rfl 3 0 rfl rfl Tryz.underlying34 Tryz.underlying34 in41 rfl rfl (by rfl) rfl rfl (by simp only [List.length_map, List.length_take]; omega) (by simp only [List.length_map, List.length_take]; omega) ?_
                clear hs
                intro a81 c81 w hs
                simp only [List.set_cons_succ, List.set_cons_zero] at hs
                clear hK
                have hK := hs.suffix 7 rfl
                refine lw_nil ⟨hK, ?_⟩
                refine aw_take 14 rfl (by kernel_rfl) (by kernel_rfl) (by kernel_rfl) rfl (fun w hs => run_fieldAddr (o' := 5) Tryz.underlying36 rfl sz34 rfl rfl rfl) hK ?_
                refine aw_ready [15] (by kernel_rfl) (by simp) ?_
                refine ⟨⟨_, rfl, ?_⟩, trivial⟩
                refine lw_store (v := .slice _ _ _) hs 5 rfl sz34 rfl rfl rfl rfl ?_
                clear hs
                intro w hs
                try simp only [List.set_cons_succ, List.set_cons_zero] at hs
                clear hK
                have hK := hs.suffix 7 rfl
                refine lw_nil ⟨hK, ?_⟩
                refine aw_done (by kernel_rfl) ?_
                clear hK
                refine cw_region ?_
                refine lw_val rfl (run_move (v := .int .u64 _) rfl) ?_
                refine lw_val rfl (run_sub rfl rfl) ?_
                refine lw_val rfl (run_assign (v := .int .u64 _) rfl) ?_
                refine lw_nil ?_
                have hw : IntKind.u64.wrap (((m.obs.length - k : Nat) : Int) - 1) = ((m.obs.length - (k + 1) : Nat) : Int) := by rw [wrap_u64]; omega
                have hl : ((m.obs.take k).map obL).length = k := by rw [List.length_map, List.length_take]; omega
                rw [hl] at hs
                exact ⟨(k + 1, (a81, c81), q3), by simp only; omega, ⟨by simp only; omega, he3, by simp only [List.take_add_one, hy, Option.toList, List.map_append, List.map_cons, List.map_nil]; exact hs.arr [1, 3, 4, 5, 6] 7 (by decide)⟩, ⟨congrArg (Value.int .u64) hw, trivial⟩, by repeat (first | exact Out.mix _ _ _ | refine Out.updo rfl ?_ | refine Out.upd rfl ?_ | refine Out.mixIn rfl ?_)⟩
              · skip
                refine lw_buildRow hs rfl (row := obL y) Tryz.underlying34 zsOb rfl (fill_ob1 y.1 y.2.1 y.2.2) (by decide) (by decide) ?_
                clear hs
                intro b80 w hs
                clear hK
                have hK := hs.suffix 7 rfl
                refine lw_nil ⟨hK, ?_⟩
                refine aw_ready [1] (by kernel_rfl) (by simp) ?_
                refine ⟨⟨_, rfl, ?_⟩, trivial⟩
                refine lw_val rfl (run_load Tryz.underlying34 rfl rfl (hs.cellAt 5 rfl rfl)) ?_
                clear hK
                have hK := (show Mem g w L from by first | exact hs.suffix 5 rfl | exact hs.suffix 6 rfl | exact hs.suffix 7 rfl)
                refine lw_nil ⟨hK, ?_⟩
                refine aw_ready [13] (by kernel_rfl) (by simp) ?_
                refine ⟨⟨_, rfl, ?_⟩, trivial⟩
                refine lw_appendRow hs rfl 3 0 rfl rfl Tryz.underlying34 Tryz.underlying34 in41 rfl rfl (by rfl) rfl rfl (by simp only [List.length_map, List.length_take]; omega) (by simp only [List.length_map, List.length_take]; omega) ?_
                clear hs
                intro a81 c81 w hs
                simp only [List.set_cons_succ, List.set_cons_zero] at hs
                clear hK
                have hK := hs.suffix 7 rfl
                refine lw_nil ⟨hK, ?_⟩
                refine aw_take 14 rfl (by kernel_rfl) (by kernel_rfl) (by kernel_rfl) rfl (fun w hs => run_fieldAddr (o' := 5) Tryz.underlying36 rfl sz34 rfl rfl rfl) hK ?_
                refine aw_ready [15] (by kernel_rfl) (by simp) ?_
                refine ⟨⟨_, rfl, ?_⟩, trivial⟩
                refine lw_store (v := .slice _ _ _) hs 5 rfl sz34 rfl rfl rfl rfl ?_
                clear hs
                intro w hs
                try simp only [List.set_cons_succ, List.set_cons_zero] at hs
                clear hK
                have hK := hs.suffix 7 rfl
                refine lw_nil ⟨hK, ?_⟩
                refine aw_done (by kernel_rfl) ?_
                clear hK
                refine cw_region ?_
                refine lw_val rfl (run_move (v := .int .u64 _) rfl) ?_
                refine lw_val rfl (run_sub rfl rfl) ?_
                refine lw_val rfl (run_assign (v := .int .u64 _) rfl) ?_
                refine lw_nil ?_
                have hw : IntKind.u64.wrap (((m.obs.length - k : Nat) : Int) - 1) = ((m.obs.length - (k + 1) : Nat) : Int) := by rw [wrap_u64]; omega
                have hl : ((m.obs.take k).map obL).length = k := by rw [List.length_map, List.length_take]; omega
                rw [hl] at hs
                exact ⟨(k + 1, (a81, c81), q3), by simp only; omega, ⟨by simp only; omega, he3, by simp only [List.take_add_one, hy, Option.toList, List.map_append, List.map_cons, List.map_nil]; exact hs.arr [1, 3, 4, 5, 6] 7 (by decide)⟩, ⟨congrArg (Value.int .u64) hw, trivial⟩, by repeat (first | exact Out.mix _ _ _ | refine Out.updo rfl ?_ | refine Out.upd rfl ?_ | refine Out.mixIn rfl ?_)⟩
    · intro h60
      have g60 := of_decide_eq_false h60
      obtain rfl : k = m.obs.length := by omega
      have hpl : B.length ≤ p' := List.drop_eq_nil_iff.1 (hd.trans (by rw [List.drop_length]; rfl))
      rw [List.take_length] at hs
      refine lw_off rfl rfl rfl h60 ?_
      refine lw_off rfl rfl rfl h60 ?_
      refine lw_off rfl rfl rfl h60 ?_
      refine lw_val rfl (run_pickF (v := .bool _) rfl h60 rfl) ?_
      refine lw_nil ?_
      refine cw_iff rfl rfl ?_
      refine cw_exit rfl ?_
      refine cw_seq ?_
      refine cw_seq ?_
      refine cw_region ?_
      refine lw_val rfl (run_move (v := .pointer (some _)) rfl) ?_
      refine lw_call rfl en118 (errOK_sl hs) ?_
      clear hs
      rintro _ w ⟨rfl, hs⟩
      refine lw_val rfl (run_nenn rfl) ?_
      refine lw_nil ?_
      refine cw_iff rfl (rfl) ?_
      refine cw_skip ?_
      refine cw_seq ?_
      refine cw_seq ?_
      refine cw_region ?_
      refine lw_val rfl (run_move (v := .pointer (some _)) rfl) ?_
      refine lw_call rfl en122 (left_sl hs (by omega)) ?_
      clear hs
      rintro _ w ⟨rfl, hpl2, hs⟩
      refine lw_val rfl (run_gtr rfl rfl) ?_
      refine lw_nil ?_
      refine cw_iff rfl (decide_eq_false (by omega)) ?_
      refine cw_skip ?_
      refine cw_seq ?_
      refine cw_seq ?_
      refine cw_region ?_
      refine lw_val rfl (run_loadRow hs 3 rfl Tryz.underlying36 sz36 rfl) ?_
      refine lw_call rfl en107 (validM_sl hE hs (MfR.own (e := s) (o := s') 2 1 rfl rfl) (by omega)) ?_
      clear hs
      rintro _ w ⟨eb, rfl, hs⟩
      rw [h0, flC_bare] at hs
      rw [h0, flV_bare]
      replace hs := hs.tail
      refine lw_val rfl (run_assign (v := errV ad _) rfl) ?_
      refine lw_nil ?_
      refine cw_seq ?_
      refine cw_region ?_
      refine lw_val rfl (run_move (v := errV ad _) rfl) ?_
      refine lw_val rfl (run_neerrn (ad := ad) rfl) ?_
      refine lw_nil ?_
      refine cw_iff rfl (rfl) ?_
      refine cw_skip ?_
      refine cw_seq ?_
      refine cw_region ?_
      refine lw_val rfl (run_loadRow hs 3 rfl Tryz.underlying36 sz36 rfl) ?_
      refine lw_storeRow hs 4 rfl rfl rfl sz36 rfl rfl ?_
      clear hs
      intro w hs
      try simp only [List.set_cons_succ, List.set_cons_zero] at hs
      refine lw_val rfl (run_assign (v := .nilIface) rfl) ?_
      refine lw_nil ?_
      refine cw_ret ?_
      refine resG [(.cell 2 36, .agg _), (.tmp 3, .nilIface)] rfl ⟨⟨_, rfl, res_row hs 4 rfl Tryz.underlying36 sz36⟩, rfl, trivial⟩ ?_
      exact ⟨_, rfl, s, s', rfl, hs.arr [2, 1] 5 (by decide)⟩
end Go.Proofs.YtkogkokmcmallaaGreatDoor
namespace Go.Proofs.YtkogkokmcmallaaGreatDoor
set_option linter.all false
open Go.RowKit
variable {g w : World} {L M : List HP} {ad : Nat → Addr} {p : Nat} {V : Vw}

section
variable {P : Program} {n : Nat} {ops : Array Oper} {rest : List Oper} {K : Env → World → Prop} {ρ : Env} {dst : Option Tmp} {ty : TypeId} {pos : String} {aft : Array Edge}
theorem flat_setK {k : Nat} : ∀ {rows : List (List Value)} {r vs : List Value} {q j : Nat}, (∀ r ∈ rows, r.length = k) → rows[q]? = some r → j + vs.length ≤ k →
    (rows.set q (r.take j ++ vs ++ r.drop (j + vs.length))).flatten = rows.flatten.take (q * k + j) ++ vs ++ rows.flatten.drop (q * k + j + vs.length)
  | [], _, _, _, _, _, h, _ => by simp at h
  | x :: rows, r, vs, 0, j, hl, h, hj => by
    simp only [List.getElem?_cons_zero, Option.some.injEq] at h
    subst h
    have hx := hl x (List.mem_cons_self ..)
    simp only [List.set_cons_zero, List.flatten_cons, Nat.zero_mul, Nat.zero_add]
    rw [List.take_append_of_le_length (by omega), List.drop_append_of_le_length (by omega)]
    simp only [List.append_assoc]
  | x :: rows, r, vs, q + 1, j, hl, h, hj => by
    have hx := hl x (List.mem_cons_self ..)
    simp only [List.getElem?_cons_succ] at h
    have ih := flat_setK (vs := vs) (fun y hy => hl y (List.mem_cons_of_mem _ hy)) h hj
    have e1 : (q + 1) * k + j = x.length + (q * k + j) := by rw [Nat.succ_mul]; omega
    have e2 : (q + 1) * k + j + vs.length = x.length + (q * k + j + vs.length) := by rw [Nat.succ_mul]; omega
    simp only [List.set_cons_succ, List.flatten_cons, ih]
    rw [e2, e1, List.take_length_add_append, List.drop_length_add_append]
    simp only [List.append_assoc]
theorem patch_at (X vs : List Value) (p i : Nat) (h : p + vs.length ≤ X.length) : (X.take p ++ vs ++ X.drop (p + vs.length))[i]? = if i < p then X[i]? else if i < p + vs.length then vs[i - p]? else X[i]? := by
  rw [List.append_assoc]
  have hl : (X.take p).length = p := by rw [List.length_take]; omega
  by_cases h1 : i < p
  · rw [if_pos h1, List.getElem?_append_left (by omega), List.getElem?_take_of_lt h1]
  · rw [if_neg h1, List.getElem?_append_right (by omega), hl]
    by_cases h2 : i < p + vs.length
    · rw [if_pos h2, List.getElem?_append_left (by omega)]
    · rw [if_neg h2, List.getElem?_append_right (by omega), List.getElem?_drop]
      congr 1; omega
/-- Some cells of a row of one's own are written. -/
theorem lw_storeRowK (hs : Mem g w L) (i : Nat) {x y : Operand} {t : TypeId} {b o o' m c k q j : Nat} {rows : List (List Value)} {r vs : List Value} (hi : L[i]? = some (rowK k (.slice (some ⟨b, o, none⟩) m c) rows)) (hsz : (P.info? t).map (·.size) = some vs.length) (hx : ev ρ x = .pointer (some ⟨b, o', none⟩)) (hq : rows[q]? = some r) (hj : j + vs.length ≤ k) (hv : 0 < vs.length) (ho : o + (q * k + j) = o') (hy : ev ρ y = .agg vs.toArray) (h1 : ∀ v ∈ vs, v.oneCell' = true)
    (h : ∀ w', Mem g w' (L.set i (rowK k (.slice (some ⟨b, o, none⟩) m c) (rows.set q (r.take j ++ vs ++ r.drop (j + vs.length))))) → lw P n ops rest K ρ w') : lw P n ops (⟨none, .store t x y, ty, pos, aft, none⟩ :: rest) K ρ w := by
  subst ho
  obtain ⟨F, ⟨g1, g2⟩, g3⟩ := hs.turn hi
  obtain ⟨a', n', c', hv', hn, hc, ha, hrw, hr⟩ := g1
  simp only [Value.slice.injEq] at hv'
  obtain ⟨rfl, rfl, rfl⟩ := hv'
  have hlen : ∀ r ∈ rows, r.length = k := fun r hr => (hrw r hr).1
  have hqlt : q < rows.length := (List.getElem?_eq_some_iff.1 hq).1
  have hrk : r.length = k := hlen r (List.mem_of_getElem? hq)
  have hle : (q + 1) * k ≤ rows.length * k := Nat.mul_le_mul_right _ hqlt
  have hq1 : (q + 1) * k = q * k + k := Nat.succ_mul _ _
  have hfl : rows.flatten.length = rows.length * k := by
    have := flat_len hrw
    exact this
  have hmk : m * k = rows.length * k := by rw [hn]
  have hck : m * k ≤ c * k := Nat.mul_le_mul_right _ hc
  rcases hr with hr | ⟨b', off, cs, E, he, hb, hz, hcs⟩
  · omega
  · simp only [Option.some.injEq, Addr.mk.injEq] at he
    obtain ⟨rfl, rfl, _⟩ := he
    obtain ⟨inf, hinf, hsz⟩ := Option.map_eq_some_iff.1 hsz
    have hin : o + (q * k + j) + vs.length ≤ cs.size := by omega
    have hst : (storeVar t ⟨b, o + (q * k + j), none⟩ (.agg vs.toArray)).run P w = .ok () (w.setRow b (cs.toList.take (o + (q * k + j)) ++ vs ++ cs.toList.drop (o + (q * k + j) + vs.length)).toArray) := by
      have := run_storeCells_at (P := P) b (o + (q * k + j)) E vs 0 cs w hb (by simpa using hin) h1
      simpa [storeVar, sizeOf, typeInfo, hinf, hsz, Value.cells] using this
    have hlt := lt_of_block hb
    refine lw_skip rfl (w' := w.setRow b (cs.toList.take (o + (q * k + j)) ++ vs ++ cs.toList.drop (o + (q * k + j) + vs.length)).toArray) ?_ (h _ (g3 _ _ F ⟨⟨_, _, _, rfl, by simpa using hn, hc, ⟨ha.1, fun x hx => ?_⟩, fun y hy => ?_, .inr ⟨b, o, _, E, rfl, setRow_heap w b cs _ E (0, 0) hb, ?_, fun i hi' => ?_⟩⟩, g2⟩ (fun b hb => .inl hb) ⟨rfl, rfl, rfl, by simp [World.setRow], fun k _ hk => setRow_other w b k _ (fun e => hk ((g2 k).2 (by rw [e]; rfl)))⟩))
    · simp [execOp, hx, hy, Instr.storeAt, Instr.sureAddr, hst]
    · have := ha.2 x hx; simpa [World.setRow] using this
    · rcases List.mem_or_eq_of_mem_set hy with hy | rfl
      · exact hrw y hy
      · refine ⟨by simp only [List.length_append, List.length_take, List.length_drop]; omega, fun z hz => ?_⟩
        rcases List.mem_append.1 hz with hz | hz
        · rcases List.mem_append.1 hz with hz | hz
          · exact (hrw r (List.mem_of_getElem? hq)).2 z (List.mem_of_mem_take hz)
          · exact h1 z hz
        · exact (hrw r (List.mem_of_getElem? hq)).2 z (List.mem_of_mem_drop hz)
    · simp only [List.size_toArray, List.length_append, List.length_take, List.length_drop, Array.length_toList]; omega
    · rw [flat_setK hlen hq hj, patch_at _ _ _ _ (by omega), List.getElem?_toArray, patch_at _ _ _ _ (by simpa using hin)]
      have h3 := hcs i hi'
      by_cases e1 : i < q * k + j
      · rw [if_pos e1, if_pos (by omega)]; simpa using h3
      · rw [if_neg e1, if_neg (by omega)]
        by_cases e2 : i < q * k + j + vs.length
        · rw [if_pos e2, if_pos (by omega)]; congr 1; omega
        · rw [if_neg e2, if_neg (by omega)]; simpa using h3
end
/-- An item with its two slices. -/
abbrev T7 := Itm × SA × SA
def t7L (t : T7) : List Value := .int .i64 t.1.st :: mfL t.1.m t.2.1 t.2.2
def t7P (t : T7) : List HP := mfP t.1.m t.2.1 t.2.2
/-- An item's row ahead of its manifest. -/
def z7L (i : Itm) : List Value := .int .i64 i.st :: mfL Mf.z (none, 0) (none, 0)
theorem t7L_one (t : T7) : ∀ v ∈ t7L t, v.oneCell' = true := fun v hv => by
  simp only [t7L, mfL, List.mem_cons, List.not_mem_nil, or_false] at hv
  rcases hv with rfl | rfl | rfl | rfl | rfl | rfl | rfl <;> rfl
theorem t7L_at {ts : List T7} {k : Nat} {t : T7} (h : ts[k]? = some t) : (ts.map t7L)[k]? = some (t7L t) := by simp [h]
theorem zsIt : (Tryz.prog.info? 164).map (fun i => (i.zero, i.size)) = some (some (.agg #[.int .i64 0, .int .i64 0, .int .i64 0, .int .i64 0, .int .i64 0, .slice none 0 0, .slice none 0 0]), 7) := by kernel_rfl
theorem fill_it (i : Itm) : Instr.fill (fun i => some (i * 7, 7)) ((Array.range (1 * 7)).map ((Value.agg #[.int .i64 0, .int .i64 0, .int .i64 0, .int .i64 0, .int .i64 0, .slice none 0 0, .slice none 0 0]).cells[· % (Value.agg #[.int .i64 0, .int .i64 0, .int .i64 0, .int .i64 0, .int .i64 0, .slice none 0 0, .slice none 0 0]).cells.size]!)) [(0, .agg (z7L i).toArray)] = some (z7L i).toArray := by kernel_rfl
/-- The bytes of a manifest, as they were read. -/
abbrev R7 := SA × Itm
def rawV (r : R7) : Value := .slice r.1.1 (mfB r.2.m).length r.1.2
def rawC (r : R7) : HP := own (rawV r) (bytesL (mfB r.2.m))
theorem rawV_one (l : List R7) : ∀ v ∈ l.map rawV, v.oneCell' = true := fun v hv => by
  obtain ⟨r, _, rfl⟩ := List.mem_map.1 hv
  rfl
/-- The first chunk goes behind some. -/
theorem Mem.behind {C : HP} {X Y : List HP} (hs : Mem g w (C :: (X ++ Y))) : Mem g w (X ++ (C :: Y)) := hs.perm (List.perm_middle.symm)
/-- Some first chunks go behind some. -/
theorem Mem.behindL {A X Y : List HP} (hs : Mem g w (A ++ (X ++ Y))) : Mem g w (X ++ (A ++ Y)) := hs.perm (by
  rw [← List.append_assoc, ← List.append_assoc]
  exact List.perm_append_comm.append_right Y)
/-- Some chunks are let go. -/
theorem Mem.less {A X Y : List HP} (hs : Mem g w (A ++ (X ++ Y))) : Mem g w (A ++ Y) := (hs.behindL).suffix X.length (by simp)
/-- A view's list, by items. -/
def vwOf (l : List Itm) : Vw := l.map fun i => (i.m.id, i)
theorem vwOf_ok {l : List Itm} (hN : l.length ≤ 4096) (hF : ∀ i ∈ l, mfF i.m = (0, none) ∧ 1 ≤ i.st ∧ i.st ≤ 4 ∧ ∀ q ∈ i.m.obs, q.2.2 < 4294967296) (hR : l.Pairwise fun x y => x.m.id < y.m.id) : (vwOf l).ok := by
  refine ⟨?_, fun x hx => ?_, by simpa [vwOf] using hN⟩
  · simp only [keysOf, vwOf, List.map_map, List.Nodup, List.pairwise_map]
    exact hR.imp fun h => by simp only [Function.comp]; omega
  · obtain ⟨i, hi, rfl⟩ := List.mem_map.1 hx
    obtain ⟨h1, h2, h3, _⟩ := hF i hi
    exact ⟨by rw [h1], rfl, h2, h3⟩
theorem vwOf_next {l : List Itm} {k : Nat} {i : Itm} (hi : l[k]? = some i) (hR : l.Pairwise fun x y => x.m.id < y.m.id) : aput (vwOf (l.take k)) i.m.id i = vwOf (l.take (k + 1)) := by
  obtain ⟨hk, he⟩ := List.getElem?_eq_some_iff.1 hi
  have hn : aget (vwOf (l.take k)) i.m.id = none := by
    rw [aget_none_iff]
    intro h
    simp only [keysOf, vwOf, List.map_map, List.mem_map, Function.comp] at h
    obtain ⟨j, hj, e⟩ := h
    obtain ⟨q, hq⟩ := List.mem_iff_getElem?.1 hj
    have hqk : q < k := by have := (List.getElem?_eq_some_iff.1 hq).1; rw [List.length_take] at this; omega
    rw [List.getElem?_take_of_lt hqk] at hq
    obtain ⟨hq1, hq2⟩ := List.getElem?_eq_some_iff.1 hq
    have := List.pairwise_iff_getElem.1 hR q k hq1 hk hqk
    rw [hq2, he] at this
    omega
  rw [al_end hn, List.take_add_one, hi]
  simp [vwOf]
end Go.Proofs.YtkogkokmcmallaaGreatDoor
namespace Go.Proofs.YtkogkokmcmallaaGreatDoor
set_option linter.all false
open Go.RowKit
attribute [local irreducible] errV eV
variable {g w : World} {L M : List HP} {ad : Nat → Addr} {p : Nat} {V : Vw}

def ItFine (i : Itm) : Prop := mfF i.m = (0, none) ∧ 1 ≤ i.st ∧ i.st ≤ 4 ∧ ∀ q ∈ i.m.obs, q.2.2 < 4294967296
theorem its_len : ∀ l : List Itm, (∀ i ∈ l, ItFine i) → (l.flatMap itB).length ≤ 6015 * l.length
  | [], _ => by simp
  | i :: l, h => by
    have h1 := its_len l fun x hx => h x (List.mem_cons_of_mem _ hx)
    have h2 := itB_len (i := i) (by rw [(h i (List.mem_cons_self ..)).1])
    simp only [List.flatMap_cons, List.length_append, List.length_cons]; omega
theorem rws_at {rws : List R7} {l : List Itm} (h : rws.map (·.2) = l) {k : Nat} {i : Itm} (hi : l[k]? = some i) : ∃ s : SA, rws[k]? = some (s, i) := by
  subst h
  rw [List.getElem?_map, Option.map_eq_some_iff] at hi
  obtain ⟨⟨s, j⟩, h1, rfl⟩ := hi
  exact ⟨s, h1⟩
theorem ds_at {ds : List T7} {l : List Itm} (h : ds.map (·.1) = l) {k : Nat} {i : Itm} (hi : l[k]? = some i) : ∃ e o : SA, ds[k]? = some (i, e, o) := by
  subst h
  rw [List.getElem?_map, Option.map_eq_some_iff] at hi
  obtain ⟨⟨j, e, o⟩, h1, rfl⟩ := hi
  exact ⟨e, o, h1⟩
theorem rows_next {ds : List T7} {its : List Itm} {j : Nat} {i : Itm} {s1 s2 : SA} (hd : ds.length = j) (hi : its[j]? = some i) : (ds.map t7L ++ (its.drop j).map z7L).set j (t7L (i, s1, s2)) = (ds ++ [(i, s1, s2)]).map t7L ++ (its.drop (j + 1)).map z7L := by
  obtain ⟨hk, he⟩ := List.getElem?_eq_some_iff.1 hi
  rw [List.drop_eq_getElem_cons hk, he, List.set_append_right _ _ (by rw [List.length_map]; omega), List.length_map, hd, Nat.sub_self]
  simp
theorem rows_at {ds : List T7} {its : List Itm} {j : Nat} {i : Itm} (hd : ds.length = j) (hi : its[j]? = some i) : (ds.map t7L ++ (its.drop j).map z7L)[j]? = some (z7L i) := by
  obtain ⟨hk, he⟩ := List.getElem?_eq_some_iff.1 hi
  rw [List.drop_eq_getElem_cons hk, he, List.getElem?_append_right (by rw [List.length_map]; omega), List.length_map, hd, Nat.sub_self]
  simp
theorem z7_set (i : Itm) (s1 s2 : SA) : (z7L i).take 1 ++ mfL i.m s1 s2 ++ (z7L i).drop (1 + (mfL i.m s1 s2).length) = t7L (i, s1, s2) := rfl
theorem raw_at {A B C : HP} {rws : List R7} {Y : List HP} {j : Nat} {r : R7} (h : rws[j]? = some r) : (A :: B :: C :: (rws.map rawC ++ Y))[3 + j]? = some (rawC r) := by
  have hj := (List.getElem?_eq_some_iff.1 h).1
  rw [show 3 + j = j + 3 by omega]
  simp only [List.getElem?_cons_succ]
  rw [List.getElem?_append_left (by simpa using hj)]
  simp [h]
theorem st8 {i : Itm} (h : ItFine i) : (UInt8.ofNat i.st.toNat).toNat = i.st.toNat := by
  have := h.2; rw [UInt8.toNat_ofNat']; omega
set_option maxHeartbeats 4000000 in
set_option maxRecDepth 10000 in
theorem readV_sl (hP : ErrP ad g) (hW : ErrW ad g) (hE : ErrV ad g) (hs : Mem g w L) {a : Option Addr} {n c : Nat} {its : List Itm} {b : List UInt8} (hb : b = sealL (vputL its.length ++ its.flatMap itB)) (hr : Rd g L (.slice a n c) (bytesL b)) (hn : n = b.length) (hc : n ≤ c) (hN : its.length ≤ 100) (hF : ∀ i ∈ its, ItFine i) (hR : its.Pairwise fun x y => x.m.id < y.m.id) :
    Calls Tryz.prog 33 #[.slice a n c] w (Ret fun v w' => ∃ p, v = .tuple #[.pointer (some ⟨p, 0, none⟩), .nilIface] ∧ Mem g w' (ViewC p (vwOf its) :: L)) := by
  have hfl := its_len its hF
  have hvl := vputL_len its.length
  obtain ⟨N, hNe⟩ : ∃ N, N = its.length := ⟨_, rfl⟩
  obtain ⟨B, hB⟩ : ∃ B, B = vputL its.length ++ its.flatMap itB := ⟨_, rfl⟩
  have hBl : B.length ≤ 601510 := by rw [hB, List.length_append]; omega
  have hop : openL b = (0, B) := by rw [hb, hB]; exact open_seal _
  have hd0 : B.drop 0 = vputL N ++ (its.drop 0).flatMap itB := by rw [hB, hNe]; rfl
  rw [← hNe] at hN
  refine calls_cw Tryz.func33 rfl rfl ?_
  skip
  refine cw_seq ?_
  refine cw_region ?_
  refine lw_val rfl (run_assign (v := .pointer none) rfl) ?_
  refine lw_val rfl (run_assign (v := .nilIface) rfl) ?_
  refine lw_nil ?_
  refine cw_seq ?_
  refine cw_region ?_
  refine lw_val rfl (run_move (v := .slice _ _ _) rfl) ?_
  refine lw_call rfl en115 (copen_sl hP hs hr hn hc (by rw [hb, ← hB, sealL_len]; omega) hop) ?_
  clear hs
  rintro _ w ⟨a19, c19, rfl, hs⟩
  rw [errV_zero]
  refine lw_val rfl (run_move (v := .tuple _) rfl) ?_
  refine lw_val rfl (run_extract (v := .slice _ _ _) rfl rfl) ?_
  refine lw_val rfl (run_extract (v := .nilIface) rfl rfl) ?_
  refine lw_val rfl (run_assign (v := .slice _ _ _) rfl) ?_
  refine lw_val rfl (run_assign (v := .nilIface) rfl) ?_
  refine lw_nil ?_
  refine cw_seq ?_
  refine cw_seq ?_
  refine cw_region ?_
  refine lw_val rfl (run_move (v := .nilIface) rfl) ?_
  refine lw_val rfl (run_nenn rfl) ?_
  refine lw_nil ?_
  refine cw_iff rfl (rfl) ?_
  refine cw_skip ?_
  refine cw_seq ?_
  refine cw_region ?_
  refine lw_val rfl (run_move (v := .slice _ _ _) rfl) ?_
  refine lw_call rfl en116 (newr_sl ad hs (hs.rdOwn 0 rfl) rfl (by omega)) ?_
  clear hs
  rintro _ w ⟨rb, rfl, hs⟩
  replace hs := hs.drop 1
  refine lw_val rfl (run_assign (v := .pointer (some _)) rfl) ?_
  refine lw_nil ?_
  refine cw_seq ?_
  refine cw_region ?_
  refine lw_val rfl (run_assign (v := .slice _ _ _) rfl) ?_
  refine lw_nil ?_
  refine cw_seq ?_
  refine cw_region ?_
  refine lw_val rfl (run_assign (v := .slice _ _ _) rfl) ?_
  refine lw_nil ?_
  refine cw_seq ?_
  refine cw_seq ?_
  refine cw_region ?_
  refine lw_val rfl (run_move (v := .pointer (some _)) rfl) ?_
  refine lw_call rfl en117 (numOK_sl (most := 4096) hW hs (by omega) hd0 (by omega) (by omega)) ?_
  clear hs
  rintro _ w ⟨rfl, hs⟩
  have hd1 : B.drop (0 + (vputL N).length) = _ := drop_eat hd0
  generalize 0 + (vputL N).length = p1 at hs hd1
  refine lw_val rfl (run_assign (v := .int .u64 _) rfl) ?_
  refine lw_nil ?_
  replace hs := ((hs.addE (rowK_nil 7 _)).addE (own_nil _)).arr [2, 1, 0] 3 (by decide)
  refine cw_block ?_
  refine cw_loop (X := Nat × SA × SA × Nat × List R7) [7, 8, 9, 29, 30, 31, 32, 33, 34, 35, 36, 37, 38, 39, 40, 41, 42, 43, 44, 45, 46, 47, 48, 49] (fun q => [(9, .int .u64 ((N - q.1 : Nat) : Int)), (7, .slice q.2.1.1 q.1 q.2.1.2), (8, .slice q.2.2.1.1 q.1 q.2.2.1.2)]) (fun q w => q.1 ≤ N ∧ q.2.2.2.2.map (·.2) = its.take q.1 ∧ B.drop q.2.2.2.1 = (its.drop q.1).flatMap itB ∧ Mem g w (RdrC rb ad B (q.2.2.2.1, 0) :: rowK 7 (.slice q.2.1.1 q.1 q.2.1.2) ((its.take q.1).map z7L) :: own (.slice q.2.2.1.1 q.1 q.2.2.1.2) (q.2.2.2.2.map rawV) :: (q.2.2.2.2.map rawC ++ L))) (fun q => N - q.1) ((0, (none, 0), (none, 0), p1, [])) ?_ ?_ ?_
  · exact ⟨rfl, rfl, rfl, trivial⟩
  · exact ⟨Nat.zero_le _, rfl, hd1, hs⟩
  clear hs
  rintro x ξ w hI
  obtain ⟨k, s7, s8, p, rws⟩ := x
  obtain ⟨hk, hrw, hd, hs⟩ := hI
  simp only at hk hrw hd hs
  show cw _ _ _ _ _ _ (updL (mix _ ξ _) [(9, .int .u64 ((N - k : Nat) : Int)), (7, .slice s7.1 k s7.2), (8, .slice s8.1 k s8.2)]) w
  refine cw_seq ?_
  refine cw_seq ?_
  refine cw_region ?_
  refine lw_val rfl (run_move (v := .int .u64 _) rfl) ?_
  refine lw_val rfl (run_gtr rfl rfl) ?_
  refine lw_val rfl (run_move (v := .bool _) rfl) ?_
  refine lw_split (t := _) (d := 31) rfl ?_ ?_
  · intro h30
    have g30 := of_decide_eq_true h30
    obtain ⟨i, hi⟩ : ∃ i, its[k]? = some i := ⟨_, List.getElem?_eq_getElem (by omega)⟩
    have hfi := hF i (List.mem_of_getElem? hi)
    obtain ⟨hki, hke⟩ := List.getElem?_eq_some_iff.1 hi
    have hml := mfB_len (x := i.m) (by rw [hfi.1])
    have hst := hfi.2
    have hst8 := st8 hfi
    have hrl : rws.length = k := by have h1 := congrArg List.length hrw; rw [List.length_map, List.length_take] at h1; omega
    have hd : B.drop p = UInt8.ofNat i.st.toNat :: (vputL (mfB i.m).length ++ (mfB i.m ++ (its.drop (k + 1)).flatMap itB)) := by rw [hd, List.drop_eq_getElem_cons hki, hke]; simp [itB]
    have hzl : ((its.take k).map z7L).length = k := by rw [List.length_map, List.length_take]; omega
    refine lw_on rfl rfl h30 ?_
    refine lw_val rfl (run_move (v := .pointer (some _)) rfl) ?_
    refine lw_on rfl rfl h30 ?_
    refine lw_call rfl en118 (errOK_sl hs) ?_
    clear hs
    rintro _ w ⟨rfl, hs⟩
    refine lw_on rfl rfl h30 ?_
    refine lw_val rfl (run_eqnn rfl) ?_
    refine lw_val rfl (run_pickT (v := .bool _) rfl h30 rfl) ?_
    refine lw_nil ?_
    refine cw_ift rfl (rfl) ?_
    refine cw_skip ?_
    refine cw_seq ?_
    refine cw_block ?_
    refine cw_seq ?_
    refine cw_region ?_
    refine lw_val rfl (run_move (v := .slice _ _ _) rfl) ?_
    refine lw_val rfl (run_move (v := .pointer (some _)) rfl) ?_
    refine lw_call rfl en119 (fixOK_sl hW hs (by omega) hd) ?_
    clear hs
    rintro _ w ⟨rfl, hs⟩
    have he1 : B.drop (p + 1) = _ := drop_eat (x := [UInt8.ofNat i.st.toNat]) hd
    rw [hst8]
    refine lw_val rfl (run_convIn Tryz.underlying172 Tryz.underlying3 rfl (c := i.st) (wrapZ (by omega) (by omega))) ?_
    refine lw_val rfl (run_build (cs := [.int .i64 i.st, .int .i64 0, .int .i64 0, .int .i64 0, .int .i64 0, .slice none 0 0, .slice none 0 0]) Tryz.underlying164 ze164 pl164 rfl) ?_
    refine lw_buildRow hs rfl (row := z7L i) Tryz.underlying178 zsIt rfl (fill_it i) (by decide) (by decide) ?_
    clear hs
    intro b43 w hs
    refine lw_appendRow hs rfl 2 0 rfl rfl Tryz.underlying178 Tryz.underlying178 in164 rfl rfl (by rfl) rfl rfl (by rw [hzl]; omega) (by rw [hzl]; omega) ?_
    clear hs
    intro a44 c44 w hs
    simp only [List.set_cons_succ, List.set_cons_zero] at hs
    replace hs := hs.tail
    rw [hzl] at hs ⊢
    refine lw_val rfl (run_assign (v := .slice _ _ _) rfl) ?_
    refine lw_nil ?_
    refine cw_region ?_
    refine lw_val rfl (run_move (v := .slice _ _ _) rfl) ?_
    refine lw_val rfl (run_move (v := .pointer (some _)) rfl) ?_
    refine lw_call rfl en120 (bytesOK_sl (most := 65536) hW hs (by omega) he1 (by omega) (by omega)) ?_
    clear hs
    rintro _ w ⟨s47, rfl, hs⟩
    have he2 : B.drop (p + 1 + (vputL (mfB i.m).length).length + (mfB i.m).length) = _ := drop_eat (drop_eat he1)
    generalize p + 1 + (vputL (mfB i.m).length).length + (mfB i.m).length = q1 at hs he2
    refine lw_buildSlice hs rfl ([rawV (s47, i)]) Tryz.underlying179 zs64 rfl (by intro u hu; rw [List.mem_singleton.1 hu]; rfl) rfl rfl rfl ?_
    clear hs
    intro b48 w hs
    try simp only [List.set_cons_succ, List.set_cons_zero] at hs
    refine lw_append hs rfl 4 rfl Tryz.underlying179 in64 rfl rfl rfl (src_of_seq (P := Tryz.prog) Tryz.underlying179 ((Rd.cells (n := 1) (cs := [rawV (s47, i)]) 0 rfl rfl).seq hs) (rawV_one [(s47, i)])) (by rw [List.length_map, hrl]; simp; omega) (by rw [List.length_map, hrl]; simp; omega) ?_
    clear hs
    intro a49 c49 w hs
    simp only [List.set_cons_succ, List.set_cons_zero] at hs
    refine lw_val rfl (run_assign (v := .slice _ _ _) rfl) ?_
    refine lw_nil ?_
    refine cw_region ?_
    refine lw_val rfl (run_move (v := .int .u64 _) rfl) ?_
    refine lw_val rfl (run_sub rfl rfl) ?_
    refine lw_val rfl (run_assign (v := .int .u64 _) rfl) ?_
    refine lw_nil ?_
    have hw : IntKind.u64.wrap (((N - k : Nat) : Int) - 1) = ((N - (k + 1) : Nat) : Int) := by rw [wrap_u64]; omega
    have hal : (rws.map rawV).length + [rawV (s47, i)].length = k + 1 := by rw [List.length_map, hrl]; rfl
    rw [hal] at hs ⊢
    have h3 := hs.tail.arr [1, 2, 3, 0] 4 (by decide)
    exact ⟨(k + 1, (a44, c44), (a49, c49), q1, rws ++ [(s47, i)]), by simp only; omega, ⟨by simp only; omega, by simp only [List.map_append, hrw, List.take_add_one, hi]; rfl, he2, by simp only [List.take_add_one, hi, Option.toList, List.map_append, List.map_cons, List.map_nil, List.append_assoc, List.cons_append, List.nil_append]; exact (Mem.behind (X := [_, _, _] ++ rws.map rawC) (hs.tail))⟩, ⟨congrArg (Value.int .u64) hw, rfl, rfl, trivial⟩, by repeat (first | exact Out.mix _ _ _ | refine Out.updo rfl ?_ | refine Out.upd rfl ?_ | refine Out.mixIn rfl ?_)⟩
  · intro h30
    have g30 := of_decide_eq_false h30
    have hkN : k = N := by omega
    subst hkN
    have hall : its.drop k = [] := List.drop_eq_nil_iff.2 (by omega)
    have hta : its.take k = its := List.take_of_length_le (by omega)
    rw [hall] at hd
    rw [hta] at hs hrw
    have hpl : B.length ≤ p := List.drop_eq_nil_iff.1 hd
    refine lw_off rfl rfl rfl h30 ?_
    refine lw_off rfl rfl rfl h30 ?_
    refine lw_off rfl rfl rfl h30 ?_
    refine lw_val rfl (run_pickF (v := .bool _) rfl h30 rfl) ?_
    refine lw_nil ?_
    refine cw_iff rfl rfl ?_
    refine cw_exit rfl ?_
    refine cw_seq ?_
    refine cw_seq ?_
    refine cw_region ?_
    refine lw_val rfl (run_move (v := .pointer (some _)) rfl) ?_
    refine lw_call rfl en118 (errOK_sl hs) ?_
    clear hs
    rintro _ w ⟨rfl, hs⟩
    refine lw_val rfl (run_nenn rfl) ?_
    refine lw_nil ?_
    refine cw_iff rfl (rfl) ?_
    refine cw_skip ?_
    refine cw_seq ?_
    refine cw_seq ?_
    refine cw_region ?_
    refine lw_val rfl (run_move (v := .slice _ _ _) rfl) ?_
    refine lw_val rfl (run_lenS Tryz.underlying178 rfl) ?_
    refine lw_val rfl (run_move (v := .int .i64 _) rfl) ?_
    refine lw_nil ?_
    refine cw_block ?_
    refine cw_loop (X := Nat × List T7) [2, 3, 5, 10, 57, 58, 59, 60, 61, 62, 63, 64, 65, 66, 67, 68, 69, 70, 71, 72, 73, 74, 75] (fun q => [(57, .int .i64 (q.1 : Nat))]) (fun q w => q.1 ≤ k ∧ q.2.map (·.1) = its.take q.1 ∧ Mem g w (RdrC rb ad B (p, 0) :: rowK 7 (.slice s7.1 k s7.2) (q.2.map t7L ++ (its.drop q.1).map z7L) :: own (.slice s8.1 k s8.2) (rws.map rawV) :: (rws.map rawC ++ (q.2.flatMap t7P ++ L)))) (fun q => k - q.1) ((0, [])) ?_ ?_ ?_
    · exact ⟨rfl, trivial⟩
    · exact ⟨Nat.zero_le _, rfl, hs⟩
    clear hs
    rintro x ξ w hI
    obtain ⟨j, ds⟩ := x
    obtain ⟨hj, hds, hs⟩ := hI
    simp only at hj hds hs
    show cw _ _ _ _ _ _ (updL (mix _ ξ _) [(57, .int .i64 (j : Nat))]) w
    refine cw_seq ?_
    refine cw_region ?_
    refine lw_val rfl (run_lss rfl rfl) ?_
    refine lw_nil ?_
    refine cw_seq ?_
    refine cw_if rfl ?_ ?_
    · intro h58
      have g58 := of_decide_eq_true h58
      obtain ⟨i, hi⟩ : ∃ i, its[j]? = some i := ⟨_, List.getElem?_eq_getElem (by omega)⟩
      have hfi := hF i (List.mem_of_getElem? hi)
      obtain ⟨s, hrj⟩ := rws_at hrw hi
      have hdl : ds.length = j := by have h1 := congrArg List.length hds; rw [List.length_map, List.length_take] at h1; omega
      have hcap := (hs.ownForm (3 + j) (raw_at hrj)).2.1
      obtain ⟨b8, o8, hb8, _⟩ := (Rd.own (g := g) (L := _ :: _ :: own (.slice s8.1 k s8.2) (rws.map rawV) :: (rws.map rawC ++ (ds.flatMap t7P ++ L))) 2 rfl).cells' hs (by rw [List.length_map]; have := (List.getElem?_eq_some_iff.1 hrj).1; omega)
      obtain ⟨b7, o7, hb7⟩ := (RdK.row (g := g) (L := _ :: rowK 7 (.slice s7.1 k s7.2) (ds.map t7L ++ (its.drop j).map z7L) :: _ :: (rws.map rawC ++ (ds.flatMap t7P ++ L))) 1 rfl).at hs (by have := (List.getElem?_eq_some_iff.1 (rows_at hdl hi)).1; omega)
      obtain ⟨sa7, sc7⟩ := s7
      obtain ⟨sa8, sc8⟩ := s8
      simp only at hb7 hb8
      subst hb7
      subst hb8
      refine cw_skip ?_
      refine cw_seq ?_
      refine cw_block ?_
      refine cw_seq ?_
      refine cw_region ?_
      refine lw_val rfl (run_move (v := .int .i64 _) rfl) ?_
      refine lw_val rfl (run_assign (v := .int .i64 _) rfl) ?_
      refine lw_nil ?_
      refine cw_seq ?_
      refine cw_region ?_
      refine lw_val rfl (run_move (v := .slice _ _ _) rfl) ?_
      refine lw_val rfl (run_move (v := .int .i64 _) rfl) ?_
      refine lw_val rfl (run_move (v := .slice _ _ _) rfl) ?_
      refine lw_val rfl (run_move (v := .int .i64 _) rfl) ?_
      refine lw_val rfl (run_indexAddr Tryz.underlying179 sz64 rfl rfl rfl (by omega) rfl) ?_
      refine lw_val rfl (run_load Tryz.underlying64 rfl rfl (hs.ownAt 2 rfl (j := j) (v := rawV (s, i)) (by simp [hrj]))) ?_
      refine lw_call rfl en121 (maniR_sl hP hW hE hs (m := i.m) (hs.rdOwn (3 + j) (raw_at hrj)) rfl hcap hfi.1 hfi.2.2.2) ?_
      clear hs
      rintro _ w ⟨s1, s2, rfl, hs⟩
      simp only [mfP, List.cons_append, List.nil_append] at hs
      refine lw_val rfl (run_move (v := .tuple _) rfl) ?_
      refine lw_val rfl (run_extract (v := .agg _) rfl rfl) ?_
      refine lw_val rfl (run_extract (v := .nilIface) rfl rfl) ?_
      refine lw_val rfl (run_indexAddrK Tryz.underlying178 sz164 rfl rfl rfl (by omega) rfl) ?_
      refine lw_val rfl (run_fieldAddr Tryz.underlying164 rfl sz36 rfl rfl rfl) ?_
      refine lw_storeRowK hs 3 (vs := mfL i.m s1 s2) (j := 1) (q := j) rfl sz36 rfl (rows_at hdl hi) (Nat.le_refl 7) (Nat.succ_pos 5) rfl rfl (fun v hv => t7L_one (i, s1, s2) v (List.mem_cons_of_mem _ hv)) ?_
      clear hs
      intro w hs
      simp only [List.set_cons_succ, List.set_cons_zero] at hs
      rw [z7_set, rows_next hdl hi] at hs
      refine lw_val rfl (run_assign (v := .nilIface) rfl) ?_
      refine lw_nil ?_
      refine cw_seq ?_
      refine cw_region ?_
      refine lw_val rfl (run_move (v := .nilIface) rfl) ?_
      refine lw_val rfl (run_nenn rfl) ?_
      refine lw_nil ?_
      refine cw_iff rfl (rfl) ?_
      refine cw_skip ?_
      refine cw_region ?_
      refine lw_val rfl (run_add64 rfl rfl rfl (inI (by omega) (by omega))) ?_
      refine lw_val rfl (run_move (v := .int .i64 _) rfl) ?_
      refine lw_nil ?_
      have h5 := hs
      rw [← List.append_assoc (rws.map rawC) (ds.flatMap t7P) L] at h5
      have h6 := Mem.behindL (A := [_, _]) (X := [_, _, _] ++ (rws.map rawC ++ ds.flatMap t7P)) (Y := L) h5
      exact ⟨(j + 1, ds ++ [(i, s1, s2)]), by simp only; omega, ⟨by simp only; omega, by simp only [List.map_append, hds, List.take_add_one, hi]; rfl, by simp only [List.flatMap_append, List.flatMap_cons, List.flatMap_nil, List.append_nil, List.append_assoc, List.cons_append, List.nil_append, t7P, mfP] at h6 ⊢; exact h6⟩, ⟨rfl, trivial⟩, by repeat (first | exact Out.mix _ _ _ | refine Out.updo rfl ?_ | refine Out.upd rfl ?_ | refine Out.mixIn rfl ?_)⟩
    · intro h58
      have g58 := of_decide_eq_false h58
      have hjN : j = k := by omega
      subst hjN
      rw [hall] at hs
      rw [hta] at hds
      simp only [List.map_nil, List.append_nil] at hs
      replace hs := Mem.less (A := [_, _]) (X := _ :: rws.map rawC) (Y := ds.flatMap t7P ++ L) hs
      simp only [List.cons_append, List.nil_append] at hs
      have hdl : ds.length = j := by have h1 := congrArg List.length hds; rw [List.length_map] at h1; omega
      refine cw_exit rfl ?_
      refine cw_seq ?_
      refine cw_seq ?_
      refine cw_region ?_
      refine lw_val rfl (run_move (v := .slice _ _ _) rfl) ?_
      refine lw_val rfl (run_lenS Tryz.underlying178 rfl) ?_
      refine lw_val rfl (run_move (v := .int .i64 _) rfl) ?_
      refine lw_nil ?_
      refine cw_block ?_
      refine cw_loop (X := Nat) [2, 3, 12, 78, 79, 80, 81, 82, 83, 84, 85, 86, 87, 88, 89, 90, 91] (fun q => [(78, .int .i64 (q : Nat))]) (fun q w => q ≤ j ∧ Mem g w (RdrC rb ad B (p, 0) :: rowK 7 (.slice s7.1 j s7.2) (ds.map t7L) :: (ds.flatMap t7P ++ L))) (fun q => j - q) (0) ?_ ?_ ?_
      · exact ⟨rfl, trivial⟩
      · exact ⟨Nat.zero_le _, hs⟩
      clear hs
      rintro x ξ w hI
      obtain ⟨hx, hs⟩ := hI
      refine cw_seq ?_
      refine cw_region ?_
      refine lw_val rfl (run_lss rfl rfl) ?_
      refine lw_nil ?_
      refine cw_seq ?_
      refine cw_if rfl ?_ ?_
      · intro h79
        have g79 := of_decide_eq_true h79
        obtain ⟨i, hi⟩ : ∃ i, its[x]? = some i := ⟨_, List.getElem?_eq_getElem (by omega)⟩
        have hfi := hF i (List.mem_of_getElem? hi)
        obtain ⟨e, o, hdx⟩ := ds_at hds hi
        have hrk := RdK.row (g := g) (L := RdrC rb ad B (p, 0) :: rowK 7 (.slice s7.1 j s7.2) (ds.map t7L) :: (ds.flatMap t7P ++ L)) 1 rfl
        obtain ⟨b7, o7, hb7⟩ := hrk.at hs (by rw [List.length_map]; omega)
        have hst := hfi.2
        obtain ⟨sa7, sc7⟩ := s7
        simp only at hb7
        subst hb7
        refine cw_skip ?_
        refine cw_seq ?_
        refine cw_block ?_
        refine cw_seq ?_
        refine cw_region ?_
        refine lw_val rfl (run_indexAddrK Tryz.underlying178 sz164 rfl rfl rfl (by omega) rfl) ?_
        refine lw_val rfl (run_loadK (cs := t7L (i, e, o)) Tryz.underlying164 sz164 rfl (fun j v hj => hrk.cell hs (t7L_at hdx) hj)) ?_
        refine lw_alloc hs rfl ze164 ?_
        clear hs
        intro b12 w hs
        try simp only [List.set_cons_succ, List.set_cons_zero] at hs
        refine lw_storeRow hs 0 rfl rfl rfl sz164 rfl rfl ?_
        clear hs
        intro w hs
        try simp only [List.set_cons_succ, List.set_cons_zero] at hs
        refine lw_nil ?_
        refine cw_seq ?_
        refine cw_region ?_
        refine lw_val rfl (run_fieldAddr (o' := 0) Tryz.underlying164 rfl sz3 rfl rfl rfl) ?_
        refine lw_val rfl (run_load Tryz.underlying3 rfl rfl (hs.cellAt 0 rfl rfl)) ?_
        refine lw_val rfl (run_lss rfl rfl) ?_
        refine lw_val rfl (run_move (v := .bool _) rfl) ?_
        refine lw_on rfl rfl (decide_eq_false (by show ¬ i.st < 1; omega)) ?_
        refine lw_val rfl (run_fieldAddr (o' := 0) Tryz.underlying164 rfl sz3 rfl rfl rfl) ?_
        refine lw_on rfl rfl (decide_eq_false (by show ¬ i.st < 1; omega)) ?_
        refine lw_val rfl (run_load Tryz.underlying3 rfl rfl (hs.cellAt 0 rfl rfl)) ?_
        refine lw_on rfl rfl (decide_eq_false (by show ¬ i.st < 1; omega)) ?_
        refine lw_val rfl (run_gtr rfl rfl) ?_
        refine lw_val rfl (run_pickF (v := .bool _) rfl (decide_eq_false (by show ¬ i.st < 1; omega)) rfl) ?_
        refine lw_nil ?_
        refine cw_iff rfl (decide_eq_false (by show ¬ 4 < i.st; omega)) ?_
        refine cw_skip ?_
        refine cw_region ?_
        refine lw_val rfl (run_add64 rfl rfl rfl (inI (by omega) (by omega))) ?_
        refine lw_val rfl (run_move (v := .int .i64 _) rfl) ?_
        refine lw_nil ?_
        exact ⟨x + 1, by omega, ⟨by omega, hs.tail⟩, ⟨rfl, trivial⟩, by repeat (first | exact Out.mix _ _ _ | refine Out.updo rfl ?_ | refine Out.upd rfl ?_ | refine Out.mixIn rfl ?_)⟩
      · intro h79
        have g79 := of_decide_eq_false h79
        skip
        refine cw_exit rfl ?_
        refine cw_seq ?_
        refine cw_region ?_
        refine lw_call rfl en28 (newv_sl hs) ?_
        clear hs
        rintro _ w ⟨pv, rfl, hs⟩
        refine lw_val rfl (run_assign (v := .pointer (some _)) rfl) ?_
        refine lw_nil ?_
        refine cw_seq ?_
        refine cw_region ?_
        refine lw_val rfl (run_assign (v := .int .i64 _) rfl) ?_
        refine lw_nil ?_
        refine cw_seq ?_
        refine cw_seq ?_
        refine cw_region ?_
        refine lw_val rfl (run_move (v := .slice _ _ _) rfl) ?_
        refine lw_val rfl (run_lenS Tryz.underlying178 rfl) ?_
        refine lw_val rfl (run_move (v := .int .i64 _) rfl) ?_
        refine lw_nil ?_
        refine cw_block ?_
        refine cw_loop (X := Nat × Int) [2, 3, 14, 16, 95, 96, 97, 98, 99, 100, 101, 102, 103, 104, 105, 106, 107, 108, 109, 110, 111, 112, 113, 114, 115, 116] (fun q => [(95, .int .i64 (q.1 : Nat)), (14, .int .i64 q.2)]) (fun q w => q.1 ≤ j ∧ (∀ i, its[q.1]? = some i → q.2 < i.m.id) ∧ Mem g w (ViewC pv (vwOf (its.take q.1)) :: RdrC rb ad B (p, 0) :: rowK 7 (.slice s7.1 j s7.2) (ds.map t7L) :: ((ds.drop q.1).flatMap t7P ++ L))) (fun q => j - q.1) ((0, -1)) ?_ ?_ ?_
        · exact ⟨rfl, rfl, trivial⟩
        · exact ⟨Nat.zero_le _, fun i hi => by have := mf_id (x := i.m) (by rw [(hF i (List.mem_of_getElem? hi)).1]); simp only; omega, hs⟩
        clear hs
        rintro x ξ w hI
        obtain ⟨z, la⟩ := x
        obtain ⟨hx, hla, hs⟩ := hI
        simp only at hx hla hs
        show cw _ _ _ _ _ _ (updL (mix _ ξ _) [(95, .int .i64 (z : Nat)), (14, .int .i64 la)]) w
        refine cw_seq ?_
        refine cw_region ?_
        refine lw_val rfl (run_lss rfl rfl) ?_
        refine lw_nil ?_
        refine cw_seq ?_
        refine cw_if rfl ?_ ?_
        · intro h96
          have g96 := of_decide_eq_true h96
          obtain ⟨i, hi⟩ : ∃ i, its[z]? = some i := ⟨_, List.getElem?_eq_getElem (by omega)⟩
          have hfi := hF i (List.mem_of_getElem? hi)
          obtain ⟨e, o, hdx⟩ := ds_at hds hi
          have hlt := hla i hi
          obtain ⟨hz1, hz2⟩ := List.getElem?_eq_some_iff.1 hdx
          rw [List.drop_eq_getElem_cons hz1, hz2, List.flatMap_cons] at hs
          obtain ⟨hok, m, es, hs⟩ := hs.openV
          simp only [viewP, t7P, mfP, List.cons_append, List.nil_append] at hs
          have hrk := RdK.row (g := g) (L := cells pv [.map (some m)] 162 :: mapV m es :: famC itmC es (vwOf (its.take z)) :: RdrC rb ad B (p, 0) :: rowK 7 (.slice s7.1 j s7.2) (ds.map t7L) :: rowK 2 (.slice e.1 i.m.eps.length e.2) (i.m.eps.map prL) :: rowK 3 (.slice o.1 i.m.obs.length o.2) (i.m.obs.map obL) :: ((ds.drop (z + 1)).flatMap t7P ++ L)) 4 rfl
          obtain ⟨b7, o7, hb7⟩ := hrk.at hs (by rw [List.length_map]; omega)
          have hst := hfi.2
          obtain ⟨sa7, sc7⟩ := s7
          simp only at hb7
          subst hb7
          refine cw_skip ?_
          refine cw_seq ?_
          refine cw_block ?_
          refine cw_seq ?_
          refine cw_region ?_
          refine lw_val rfl (run_indexAddrK Tryz.underlying178 sz164 rfl rfl rfl (by omega) rfl) ?_
          refine lw_val rfl (run_loadK (cs := t7L (i, e, o)) Tryz.underlying164 sz164 rfl (fun j v hj => hrk.cell hs (t7L_at hdx) hj)) ?_
          refine lw_alloc hs rfl ze164 ?_
          clear hs
          intro b16 w hs
          try simp only [List.set_cons_succ, List.set_cons_zero] at hs
          refine lw_storeRow hs 0 rfl rfl rfl sz164 rfl rfl ?_
          clear hs
          intro w hs
          try simp only [List.set_cons_succ, List.set_cons_zero] at hs
          refine lw_nil ?_
          refine cw_seq ?_
          refine cw_seq ?_
          refine cw_region ?_
          refine lw_val rfl (run_fieldAddr (o' := 1) Tryz.underlying164 rfl sz36 rfl rfl rfl) ?_
          refine lw_val rfl (run_fieldAddr Tryz.underlying36 rfl sz3 rfl rfl rfl) ?_
          refine lw_val rfl (run_load Tryz.underlying3 rfl rfl (hs.cellAt 0 rfl rfl)) ?_
          refine lw_val rfl (run_move (v := .int .i64 _) rfl) ?_
          refine lw_val rfl (run_leq rfl rfl) ?_
          refine lw_nil ?_
          refine cw_iff rfl (decide_eq_false (by show ¬ i.m.id ≤ la; omega)) ?_
          refine cw_skip ?_
          refine cw_seq ?_
          refine cw_region ?_
          refine lw_val rfl (run_fieldAddr (o' := 1) Tryz.underlying164 rfl sz36 rfl rfl rfl) ?_
          refine lw_val rfl (run_fieldAddr Tryz.underlying36 rfl sz3 rfl rfl rfl) ?_
          refine lw_val rfl (run_load Tryz.underlying3 rfl rfl (hs.cellAt 0 rfl rfl)) ?_
          refine lw_val rfl (run_assign (v := .int .i64 _) rfl) ?_
          refine lw_nil ?_
          refine cw_drawS mixes (hs.drop 2) ?_
          intro w tr hK
          replace hs := tr _ hs
          clear tr
          refine aw_take 0 rfl (by kernel_rfl) (by kernel_rfl) (by kernel_rfl) rfl (fun w hs => run_move (v := .pointer (some _)) rfl) hK ?_
          refine aw_take 1 rfl (by kernel_rfl) (by kernel_rfl) (by kernel_rfl) rfl (fun w hs => run_nilCheckP rfl) hK ?_
          refine aw_take 2 rfl (by kernel_rfl) (by kernel_rfl) (by kernel_rfl) rfl (fun w hs => run_fieldAddr (o' := 0) Tryz.underlying162 rfl sz160 rfl rfl rfl) hK ?_
          refine aw_take 3 rfl (by kernel_rfl) (by kernel_rfl) (by kernel_rfl) rfl (fun w hs => run_load Tryz.underlying160 rfl rfl (hs.cellAt 1 rfl rfl)) hK ?_
          refine aw_take 4 rfl (by kernel_rfl) (by kernel_rfl) (by kernel_rfl) rfl (fun w hs => run_fieldAddr (o' := 1) Tryz.underlying164 rfl sz36 rfl rfl rfl) hK ?_
          refine aw_take 5 rfl (by kernel_rfl) (by kernel_rfl) (by kernel_rfl) rfl (fun w hs => run_fieldAddr Tryz.underlying36 rfl sz3 rfl rfl rfl) hK ?_
          refine aw_take 6 rfl (by kernel_rfl) (by kernel_rfl) (by kernel_rfl) rfl (fun w hs => run_load Tryz.underlying3 rfl rfl (hs.cellAt 0 rfl rfl)) hK ?_
          refine aw_take 7 rfl (by kernel_rfl) (by kernel_rfl) (by kernel_rfl) rfl (fun w hs => run_loadRow hs 0 rfl Tryz.underlying164 sz164 rfl) hK ?_
          refine aw_ready [8] (by kernel_rfl) (by simp) ?_
          refine ⟨⟨_, rfl, ?_⟩, trivial⟩
          refine lw_mapUpdate (v := .agg _) hs 2 rfl intKind Tryz.underlying160 Tryz.underlying3 rfl rfl rfl ?_
          clear hs
          intro w hs
          try simp only [List.set_cons_succ, List.set_cons_zero] at hs
          clear hK
          have hK := hs.drop 2
          refine lw_nil ⟨hK, ?_⟩
          refine aw_done (by kernel_rfl) ?_
          clear hK
          refine cw_region ?_
          refine lw_val rfl (run_add64 rfl rfl rfl (inI (by omega) (by omega))) ?_
          refine lw_val rfl (run_move (v := .int .i64 _) rfl) ?_
          refine lw_nil ?_
          have h1 := Mem.closeItm (i := i) (e := e) (o := o) (hs.arr [6, 7, 1, 2, 3, 4, 5] 8 (by decide))
          have h2 := Mem.famPut (R := itmC) (k := i.m.id) h1 2 rfl (fun _ h => False.elim h)
          have hnx := vwOf_next hi hR
          have hok2 : Vw.ok (aput (vwOf (its.take z)) i.m.id i) := by rw [hnx]; exact vwOf_ok (by rw [List.length_take]; omega) (fun x hx => hF x (List.mem_of_mem_take hx)) (hR.take)
          exact ⟨(z + 1, i.m.id), by simp only; omega, ⟨by simp only; omega, fun y hy => by obtain ⟨q1, q2⟩ := List.getElem?_eq_some_iff.1 hy; obtain ⟨q3, q4⟩ := List.getElem?_eq_some_iff.1 hi; have := List.pairwise_iff_getElem.1 hR z (z + 1) q3 q1 (by omega); rw [q2, q4] at this; exact this, by simp only [← hnx]; exact Mem.closeV hok2 h2⟩, ⟨rfl, rfl, trivial⟩, by repeat (first | exact Out.mix _ _ _ | refine Out.updo rfl ?_ | refine Out.upd rfl ?_ | refine Out.mixIn rfl ?_)⟩
        · intro h96
          have g96 := of_decide_eq_false h96
          have hzN : z = j := by omega
          subst hzN
          rw [hta] at hs
          have hdn : ds.drop z = [] := List.drop_eq_nil_iff.2 (by omega)
          rw [hdn] at hs
          replace hs := hs.arr [1, 0] 3 (by decide)
          refine cw_exit rfl ?_
          refine cw_seq ?_
          refine cw_seq ?_
          refine cw_region ?_
          refine lw_val rfl (run_move (v := .pointer (some _)) rfl) ?_
          refine lw_call rfl en122 (left_sl hs (by omega)) ?_
          clear hs
          rintro _ w ⟨rfl, hpl2, hs⟩
          refine lw_val rfl (run_gtr rfl rfl) ?_
          refine lw_nil ?_
          refine cw_iff rfl (decide_eq_false (by omega)) ?_
          refine cw_skip ?_
          refine cw_seq ?_
          refine cw_region ?_
          refine lw_val rfl (run_move (v := .pointer (some _)) rfl) ?_
          refine lw_val rfl (run_assign (v := .pointer (some _)) rfl) ?_
          refine lw_val rfl (run_assign (v := .nilIface) rfl) ?_
          refine lw_nil ?_
          refine cw_ret ?_
          refine res2 (v := .pointer (some _)) (v2 := .nilIface) rfl rfl rfl ?_
          exact ⟨_, rfl, pv, rfl, hs.tail⟩
end Go.Proofs.YtkogkokmcmallaaGreatDoor
namespace Go.Proofs.YtkogkokmcmallaaGreatDoor
set_option linter.all false
open Go.RowKit
attribute [local irreducible] errV
variable {g w : World} {L M : List HP} {ad : Nat → Addr} {p q : Nat} {V U : Vw}

/-- The same segments, states and manifests. -/
def SameP (V U : Vw) : Prop := V.length = U.length ∧ ∀ k i, aget V k = some i → aget U k = some i
theorem itmEq_sl (hs : Mem g w L) {i i' : Itm} {e o e' o' : SA} (h1 : MfR g L i.m e o) (h2 : MfR g L i'.m e' o') (h3 : i.m.eps.length ≤ 1000000) (h4 : i.m.obs.length ≤ 1000000) :
    Calls Tryz.prog 125 #[itmV i e o, itmV i' e' o'] w (Ret fun v w' => v = .bool (decide (i = i')) ∧ Mem g w' L) := by
  obtain ⟨s, m⟩ := i
  obtain ⟨s', m'⟩ := i'
  refine calls_cw Tryz.func125 rfl rfl ?_
  skip
  refine cw_seq ?_
  refine cw_region ?_
  refine lw_box (v := .agg _) hs rfl rfl ?_
  clear hs
  intro b2 w hs
  try simp only [List.set_cons_succ, List.set_cons_zero] at hs
  refine lw_box (v := .agg _) hs rfl rfl ?_
  clear hs
  intro b3 w hs
  try simp only [List.set_cons_succ, List.set_cons_zero] at hs
  refine lw_val rfl (run_assign (v := .bool _) rfl) ?_
  refine lw_nil ?_
  refine cw_seq ?_
  refine cw_region ?_
  refine lw_val rfl (run_fieldAddr (o' := 0) Tryz.underlying164 rfl sz3 rfl rfl rfl) ?_
  refine lw_val rfl (run_load Tryz.underlying3 rfl rfl (hs.cellAt 1 rfl rfl)) ?_
  refine lw_val rfl (run_fieldAddr (o' := 0) Tryz.underlying164 rfl sz3 rfl rfl rfl) ?_
  refine lw_val rfl (run_load Tryz.underlying3 rfl rfl (hs.cellAt 0 rfl rfl)) ?_
  refine lw_val rfl (run_eqi rfl rfl) ?_
  refine lw_val rfl (run_move (v := .bool _) rfl) ?_
  refine lw_split (t := _) (d := 10) rfl ?_ ?_
  · intro h9
    have g9 := of_decide_eq_true h9
    refine lw_on rfl rfl h9 ?_
    refine lw_val rfl (run_fieldAddr (o' := 1) Tryz.underlying164 rfl sz36 rfl rfl rfl) ?_
    refine lw_on rfl rfl h9 ?_
    refine lw_val rfl (run_loadMid hs 1 (mfL m e o) rfl Tryz.underlying36 sz36 rfl rfl) ?_
    refine lw_on rfl rfl h9 ?_
    refine lw_val rfl (run_fieldAddr (o' := 1) Tryz.underlying164 rfl sz36 rfl rfl rfl) ?_
    refine lw_on rfl rfl h9 ?_
    refine lw_val rfl (run_loadMid hs 0 (mfL m' e' o') rfl Tryz.underlying36 sz36 rfl rfl) ?_
    refine lw_on rfl rfl h9 ?_
    refine lw_call rfl en109 (sameM_sl hs h1.cons.cons h2.cons.cons h3 h4) ?_
    clear hs
    rintro _ w ⟨rfl, hs⟩
    refine lw_val rfl (run_pickT (v := .bool _) rfl h9 rfl) ?_
    refine lw_val rfl (run_assign (v := .bool _) rfl) ?_
    refine lw_nil ?_
    refine cw_ret ?_
    refine res1 (v := .bool _) rfl rfl ?_
    have hq : s = s' := g9
    exact ⟨_, rfl, ret_b (by rw [hq]; simp), hs.tail.tail⟩
  · intro h9
    have g9 := of_decide_eq_false h9
    refine lw_off rfl rfl rfl h9 ?_
    refine lw_off rfl rfl rfl h9 ?_
    refine lw_off rfl rfl rfl h9 ?_
    refine lw_off rfl rfl rfl h9 ?_
    refine lw_off rfl rfl rfl h9 ?_
    refine lw_val rfl (run_pickF (v := .bool _) rfl h9 rfl) ?_
    refine lw_val rfl (run_assign (v := .bool _) rfl) ?_
    refine lw_nil ?_
    refine cw_ret ?_
    refine res1 (v := .bool _) rfl rfl ?_
    exact ⟨_, rfl, ret_b (by have hq : ¬ s = s' := g9; simp [hq]), hs.tail.tail⟩
theorem same_step {es1 left : List (Int × Value)} {k : Int} (hn : (keysOf left).Nodup) (hin : ∀ j i, aget V j = some i → aget left j = none → aget U j = some i) {i : Itm} (h1 : aget V k = some i) (h2 : aget U k = some i) : ∀ j x, aget V j = some x → aget (adel left k) j = none → aget U j = some x := fun j x h h3 => by
  by_cases e : j = k
  · subst e; rw [h1] at h; cases h; exact h2
  · rw [aget_del_other _ e] at h3; exact hin j x h h3
theorem same_sub {es1 left : List (Int × Value)} {k : Int} (hn : (keysOf left).Nodup) (hsub : ∀ k v, aget left k = some v → aget es1 k = some v) : ∀ j v, aget (adel left k) j = some v → aget es1 j = some v := fun j v hj => by
  by_cases e : j = k
  · subst e; rw [aget_del_same hn] at hj; cases hj
  · rw [aget_del_other _ e] at hj; exact hsub j v hj
set_option maxHeartbeats 2000000 in
theorem eqF_sl {m1 m2 : Nat} {es1 es2 : List (Int × Value)} (ho : V.ok) (ho2 : U.ok) (hs : Mem g w (mapV m1 es1 :: famC itmC es1 V :: mapV m2 es2 :: famC itmC es2 U :: L)) :
    Calls Tryz.prog 124 #[.map (some m1), .map (some m2), .func (.func 125) #[] #[]] w (Ret fun v w' => (∃ b, v = .bool b ∧ (b = true ↔ SameP V U)) ∧ Mem g w' (mapV m1 es1 :: famC itmC es1 V :: mapV m2 es2 :: famC itmC es2 U :: L)) := by
  have hk1 := hs.famKeys 1 rfl
  have hk2 := hs.famKeys 3 rfl
  have hl1 := keys_len hk1
  have hl2 := keys_len hk2
  refine calls_cw Tryz.func124 rfl rfl ?_
  skip
  refine cw_seq ?_
  refine cw_region ?_
  refine lw_val rfl (run_assign (v := .bool _) rfl) ?_
  refine lw_nil ?_
  refine cw_seq ?_
  refine cw_seq ?_
  refine cw_region ?_
  refine lw_val rfl (run_move (v := .map _) rfl) ?_
  refine lw_val rfl (run_lenM (hs.mapAt 0 rfl) Tryz.underlying160 rfl) ?_
  refine lw_val rfl (run_move (v := .map _) rfl) ?_
  refine lw_val rfl (run_lenM (hs.mapAt 2 rfl) Tryz.underlying160 rfl) ?_
  refine lw_val rfl (run_nei rfl rfl) ?_
  refine lw_nil ?_
  refine cw_if rfl ?_ ?_
  · intro h15
    have g15 := ne_t h15
    refine cw_seq ?_
    refine cw_region ?_
    refine lw_val rfl (run_assign (v := .bool _) rfl) ?_
    refine lw_nil ?_
    refine cw_ret ?_
    refine res1 (v := .bool _) rfl rfl ?_
    exact ⟨_, rfl, ⟨false, rfl, ⟨fun h => (by cases h), fun h => absurd h.1 (fun e => g15 (by omega))⟩⟩, hs⟩
  · intro h15
    have g15 := ne_f h15
    refine cw_skip ?_
    refine cw_seq ?_
    refine cw_seq ?_
    refine cw_region ?_
    refine lw_val rfl (run_move (v := .map _) rfl) ?_
    refine lw_rangeM hs rfl 0 rfl Tryz.underlying160 rfl ?_
    clear hs
    intro r17 w hs
    try simp only [List.set_cons_succ, List.set_cons_zero] at hs
    refine lw_nil ?_
    refine cw_block ?_
    refine cw_loop (X := List (Int × Value) × Option (Int × Value)) [6, 7, 8, 9, 10, 18, 19, 20, 21, 22, 23, 24, 25, 26, 27, 28, 29, 30, 31, 32, 33, 34, 35, 36, 37] (fun x => []) (fun x w => (keysOf x.1).Nodup ∧ (∀ k v, aget x.1 k = some v → aget es1 k = some v) ∧ (∀ k i, aget V k = some i → aget x.1 k = none → aget U k = some i) ∧ Mem g w (rngC (Value.int .i64) r17 m1 es1 x.1 x.2 :: famC itmC es1 V :: mapV m2 es2 :: famC itmC es2 U :: L)) (fun x => x.1.length) ((es1, none)) ?_ ?_ ?_
    · exact trivial
    · exact ⟨hk1 ▸ ho.nd, fun _ _ h => h, fun k i h h2 => by rw [aget_none_iff, hk1] at h2; exact absurd (al_key h) h2, hs⟩
    clear hs
    rintro x ξ w hI
    obtain ⟨left, cur⟩ := x
    obtain ⟨hnd, hsub, hin, hs⟩ := hI
    simp only at hnd hsub hin hs
    refine cw_seq ?_
    refine cw_region ?_
    refine lw_nextM hs rfl 0 rfl intKind.inj rfl ?_ ?_
    · intro hl18
      subst hl18
      refine lw_val rfl (run_extract (v := .bool _) rfl rfl) ?_
      refine lw_nil ?_
      refine cw_seq ?_
      refine cw_iff rfl rfl ?_
      refine cw_exit rfl ?_
      refine cw_seq ?_
      refine cw_region ?_
      refine lw_val rfl (run_assign (v := .bool _) rfl) ?_
      refine lw_nil ?_
      refine cw_ret ?_
      refine res1 (v := .bool _) rfl rfl ?_
      exact ⟨_, rfl, ⟨true, rfl, ⟨fun _ => ⟨by omega, fun k i h => hin k i h rfl⟩, fun _ => rfl⟩⟩, hs.rngd 0 rfl⟩
    · clear hs
      intro k18 v18 w hk18 hs
      try simp only [List.set_cons_succ, List.set_cons_zero] at hs
      have hes := hsub _ _ hk18
      obtain ⟨i, hVi⟩ := al_of_key (show k18 ∈ keysOf V from hk1 ▸ al_key hes)
      obtain ⟨e1, o1, hes1, hm1⟩ := hs.itmAt 1 rfl hVi
      rw [hes] at hes1
      cases hes1
      have hdl := al_del hk18
      have hit := ho.item hVi
      refine lw_val rfl (run_extract (v := .bool _) rfl rfl) ?_
      refine lw_nil ?_
      refine cw_seq ?_
      refine cw_ift rfl rfl ?_
      refine cw_skip ?_
      refine cw_block ?_
      refine cw_seq ?_
      refine cw_region ?_
      refine lw_val rfl (run_entryM hs 0 rfl rfl) ?_
      refine lw_val rfl (run_extract (v := .int .i64 _) rfl rfl) ?_
      refine lw_val rfl (run_extract (v := .agg _) rfl rfl) ?_
      refine lw_alloc hs rfl ze164 ?_
      clear hs
      intro b8 w hs
      try simp only [List.set_cons_succ, List.set_cons_zero] at hs
      refine lw_val rfl (run_assign (v := .int .i64 _) rfl) ?_
      refine lw_storeRow hs 0 rfl rfl rfl sz164 rfl rfl ?_
      clear hs
      intro w hs
      try simp only [List.set_cons_succ, List.set_cons_zero] at hs
      refine lw_nil ?_
      refine cw_seq ?_
      obtain hU | ⟨i2, hU⟩ : aget U k18 = none ∨ ∃ i2, aget U k18 = some i2 := by cases aget U k18 <;> simp
      · skip
        have he2 := fam_none hk2 hU
        refine cw_region ?_
        refine lw_val rfl (run_move (v := .map _) rfl) ?_
        refine lw_val rfl (run_move (v := .int .i64 _) rfl) ?_
        refine lw_val rfl (run_lookupOk (hs.mapAt 3 rfl) intKind Tryz.underlying160 Tryz.underlying3 ze164 rfl rfl (o := none) he2) ?_
        refine lw_val rfl (run_move (v := .tuple _) rfl) ?_
        refine lw_val rfl (run_extract (v := .agg _) rfl rfl) ?_
        refine lw_val rfl (run_extract (v := .bool _) rfl rfl) ?_
        refine lw_alloc hs rfl ze164 ?_
        clear hs
        intro b9 w hs
        try simp only [List.set_cons_succ, List.set_cons_zero] at hs
        refine lw_storeRow hs 0 rfl rfl rfl sz164 rfl rfl ?_
        clear hs
        intro w hs
        try simp only [List.set_cons_succ, List.set_cons_zero] at hs
        refine lw_val rfl (run_assign (v := .bool _) rfl) ?_
        refine lw_nil ?_
        refine cw_seq ?_
        refine cw_region ?_
        refine lw_val rfl (run_move (v := .bool _) rfl) ?_
        refine lw_val rfl (run_not rfl) ?_
        refine lw_val rfl (run_move (v := .bool _) rfl) ?_
        refine lw_off rfl rfl rfl (not_t (rfl)) ?_
        refine lw_off rfl rfl rfl (not_t (rfl)) ?_
        refine lw_off rfl rfl rfl (not_t (rfl)) ?_
        refine lw_off rfl rfl rfl (not_t (rfl)) ?_
        refine lw_off rfl rfl rfl (not_t (rfl)) ?_
        refine lw_val rfl (run_pickT (v := .bool _) rfl (not_t (rfl)) rfl) ?_
        refine lw_nil ?_
        refine cw_ift rfl rfl ?_
        refine cw_seq ?_
        refine cw_region ?_
        refine lw_val rfl (run_assign (v := .bool _) rfl) ?_
        refine lw_nil ?_
        refine cw_ret ?_
        refine res1 (v := .bool _) rfl rfl ?_
        exact ⟨_, rfl, ⟨false, rfl, ⟨fun h => (by cases h), fun h => by rw [h.2 _ _ hVi] at hU; cases hU⟩⟩, (hs.arr [2, 3, 4, 5] 6 (by decide)).rngd 0 rfl⟩
      · skip
        obtain ⟨e2, o2, he2, hm2⟩ := hs.itmAt 4 rfl hU
        refine cw_region ?_
        refine lw_val rfl (run_move (v := .map _) rfl) ?_
        refine lw_val rfl (run_move (v := .int .i64 _) rfl) ?_
        refine lw_val rfl (run_lookupOk (hs.mapAt 3 rfl) intKind Tryz.underlying160 Tryz.underlying3 ze164 rfl rfl (o := some (itmV i2 e2 o2)) he2) ?_
        refine lw_val rfl (run_move (v := .tuple _) rfl) ?_
        refine lw_val rfl (run_extract (v := .agg _) rfl rfl) ?_
        refine lw_val rfl (run_extract (v := .bool _) rfl rfl) ?_
        refine lw_alloc hs rfl ze164 ?_
        clear hs
        intro b9 w hs
        try simp only [List.set_cons_succ, List.set_cons_zero] at hs
        refine lw_storeRow hs 0 rfl rfl rfl sz164 rfl rfl ?_
        clear hs
        intro w hs
        try simp only [List.set_cons_succ, List.set_cons_zero] at hs
        refine lw_val rfl (run_assign (v := .bool _) rfl) ?_
        refine lw_nil ?_
        refine cw_seq ?_
        refine cw_region ?_
        refine lw_val rfl (run_move (v := .bool _) rfl) ?_
        refine lw_val rfl (run_not rfl) ?_
        refine lw_val rfl (run_move (v := .bool _) rfl) ?_
        refine lw_on rfl rfl (not_f (rfl)) ?_
        refine lw_val rfl (run_move (v := .func _ _ _) rfl) ?_
        refine lw_on rfl rfl (not_f (rfl)) ?_
        refine lw_val rfl (run_loadRow hs 1 rfl Tryz.underlying164 sz164 rfl) ?_
        refine lw_on rfl rfl (not_f (rfl)) ?_
        refine lw_val rfl (run_loadRow hs 0 rfl Tryz.underlying164 sz164 rfl) ?_
        refine lw_on rfl rfl (not_f (rfl)) ?_
        refine lw_callv rfl (cap := #[]) en125 rfl (itmEq_sl hs (i := i) (i' := i2) hm1.cons.cons hm2.cons (by omega) (by omega)) ?_
        clear hs
        rintro _ w ⟨rfl, hs⟩
        refine lw_on rfl rfl (not_f (rfl)) ?_
        refine lw_val rfl (run_not rfl) ?_
        refine lw_val rfl (run_pickF (v := .bool _) rfl (not_f (rfl)) rfl) ?_
        refine lw_nil ?_
        refine cw_if rfl ?_ ?_
        · intro h35
          replace h35 := not_b h35
          refine cw_seq ?_
          refine cw_region ?_
          refine lw_val rfl (run_assign (v := .bool _) rfl) ?_
          refine lw_nil ?_
          refine cw_ret ?_
          refine res1 (v := .bool _) rfl rfl ?_
          exact ⟨_, rfl, ⟨false, rfl, ⟨fun h => (by cases h), fun h => by have h9 := h.2 _ _ hVi; rw [hU] at h9; cases h9; exact absurd rfl (of_decide_eq_false h35)⟩⟩, (hs.arr [2, 3, 4, 5] 6 (by decide)).rngd 0 rfl⟩
        · intro h35
          replace h35 := not_c h35
          refine cw_skip ?_
          have hii : i = i2 := of_decide_eq_true h35
          exact ⟨(adel left k18, some (k18, _)), by simp only; omega, ⟨nodup_del hnd k18, same_sub hnd hsub, same_step (es1 := es1) hnd hin hVi (by rw [hU, hii]), hs.arr [2, 3, 4, 5] 6 (by decide)⟩, trivial, by repeat (first | exact Out.mix _ _ _ | refine Out.updo rfl ?_ | refine Out.upd rfl ?_ | refine Out.mixIn rfl ?_)⟩
theorem enEF (args : Array Value) (w : World) : (callFunc 124 args).run Tryz.prog w = .ok (.enter 124 args) w := by kernel_rfl
theorem same_sl (hs : Mem g w (ViewC p V :: ViewC q U :: L)) : Calls Tryz.prog 34 #[.pointer (some ⟨p, 0, none⟩), .pointer (some ⟨q, 0, none⟩)] w (Ret fun v w' => (∃ b, v = .bool b ∧ (b = true ↔ SameP V U)) ∧ Mem g w' (ViewC p V :: ViewC q U :: L)) := by
  obtain ⟨ho, m1, es1, hs⟩ := hs.openV
  simp only [viewP, List.cons_append, List.nil_append] at hs
  replace hs := hs.arr [3, 0, 1, 2] 4 (by decide)
  obtain ⟨ho2, m2, es2, hs⟩ := Mem.openV hs
  simp only [viewP, List.cons_append, List.nil_append] at hs
  refine calls_cw Tryz.func34 rfl rfl ?_
  skip
  refine cw_seq ?_
  refine cw_region ?_
  refine lw_val rfl (run_assign (v := .bool _) rfl) ?_
  refine lw_nil ?_
  refine cw_seq ?_
  refine cw_drawS mixes hs ?_
  intro w tr hK
  replace hs := tr _ hs
  clear tr
  refine aw_take 0 rfl (by kernel_rfl) (by kernel_rfl) (by kernel_rfl) rfl (fun w hs => run_move (v := .pointer (some _)) rfl) hK ?_
  refine aw_take 1 rfl (by kernel_rfl) (by kernel_rfl) (by kernel_rfl) rfl (fun w hs => run_nilCheckP rfl) hK ?_
  refine aw_take 2 rfl (by kernel_rfl) (by kernel_rfl) (by kernel_rfl) rfl (fun w hs => run_fieldAddr (o' := 0) Tryz.underlying162 rfl sz160 rfl rfl rfl) hK ?_
  refine aw_take 3 rfl (by kernel_rfl) (by kernel_rfl) (by kernel_rfl) rfl (fun w hs => run_load Tryz.underlying160 rfl rfl (hs.cellAt 3 rfl rfl)) hK ?_
  refine aw_take 4 rfl (by kernel_rfl) (by kernel_rfl) (by kernel_rfl) rfl (fun w hs => run_move (v := .pointer (some _)) rfl) hK ?_
  refine aw_take 5 rfl (by kernel_rfl) (by kernel_rfl) (by kernel_rfl) rfl (fun w hs => run_nilCheckP rfl) hK ?_
  refine aw_take 6 rfl (by kernel_rfl) (by kernel_rfl) (by kernel_rfl) rfl (fun w hs => run_fieldAddr (o' := 0) Tryz.underlying162 rfl sz160 rfl rfl rfl) hK ?_
  refine aw_take 7 rfl (by kernel_rfl) (by kernel_rfl) (by kernel_rfl) rfl (fun w hs => run_load Tryz.underlying160 rfl rfl (hs.cellAt 0 rfl rfl)) hK ?_
  refine aw_ready [8] (by kernel_rfl) (by simp) ?_
  refine ⟨⟨_, rfl, ?_⟩, trivial⟩
  refine lw_call rfl enEF (eqF_sl ho ho2 (hs.arr [4, 5, 1, 2, 0, 3] 6 (by decide))) ?_
  clear hs
  rintro _ w ⟨⟨b, rfl, hb⟩, hs⟩
  replace hs := hs.arr [4, 2, 3, 5, 0, 1] 6 (by decide)
  clear hK
  have hK := hs
  refine lw_nil ⟨hK, ?_⟩
  refine aw_take 9 rfl (by kernel_rfl) (by kernel_rfl) (by kernel_rfl) rfl (fun w hs => run_assign (v := .bool _) rfl) hK ?_
  refine aw_done (by kernel_rfl) ?_
  clear hK
  refine cw_ret ?_
  refine res1 (v := .bool _) rfl rfl ?_
  exact ⟨_, rfl, ⟨b, rfl, hb⟩, (Mem.closeV (L := ViewC q U :: L) ho ((Mem.closeV (p := q) (V := U) ho2 hs).arr [1, 2, 3, 0] 4 (by decide)))⟩
end Go.Proofs.YtkogkokmcmallaaGreatDoor
namespace Go.Proofs.YtkogkokmcmallaaGreatDoor
set_option linter.all false
open Go.RowKit
attribute [local irreducible] errV
variable {g w : World} {L M : List HP} {ad : Nat → Addr} {p q : Nat} {V U : Vw}

/-- A number below a greater bound. -/
theorem numberL_sl (hs : Mem g w L) (n : Int) (b : Nat) (hb : 0 < b ∧ b < 1000000000) : Calls Tryz.prog 17 #[.int .i64 n, .int .i64 b] w (Ret fun v w' => v = .int .i64 (((n % (b : Int)).toNat : Nat) : Int) ∧ (n % (b : Int)).toNat < b ∧ Mem g w' L) := by
  have h0 : (b : Int) ≠ 0 := by omega
  have h1 := Int.emod_nonneg n h0
  have h3 := Int.emod_lt_of_pos n (show (0 : Int) < b by omega)
  have h4 := Int.tmod_lt_of_pos n (show (0 : Int) < b by omega)
  have h5 : -(b : Int) < n.tmod b := by have h3 := Int.natAbs_tmod n (b : Int); have h4 := Nat.mod_lt n.natAbs (y := (b : Int).natAbs) (by omega); omega
  have he : n.tmod b < 0 → n.tmod b + b = n % (b : Int) := fun h => by
    have e1 : (n.tmod b + (b : Int) * 1) % b = n % b := by
      rw [Int.add_mul_emod_self_left]
      conv => rhs; rw [← Int.tmod_add_mul_tdiv n (b : Int)]
      rw [Int.add_mul_emod_self_left]
    rw [Int.mul_one, Int.emod_eq_of_lt (by omega) (by omega)] at e1
    exact e1
  have hp : ¬ n.tmod b < 0 → n.tmod b = n % (b : Int) := fun h => by
    have e1 : n.tmod b % b = n % b := by
      conv => rhs; rw [← Int.tmod_add_mul_tdiv n (b : Int)]
      rw [Int.add_mul_emod_self_left]
    rw [Int.emod_eq_of_lt (by omega) (by omega)] at e1
    exact e1
  refine calls_cw Tryz.func17 rfl rfl ?_
  skip
  refine cw_seq ?_
  refine cw_region ?_
  refine lw_val rfl (run_assign (v := .int .i64 _) rfl) ?_
  refine lw_nil ?_
  refine cw_seq ?_
  refine cw_region ?_
  refine lw_val rfl (run_move (v := .int .i64 _) rfl) ?_
  refine lw_val rfl (run_move (v := .int .i64 _) rfl) ?_
  refine lw_val rfl (run_rem rfl rfl (by omega)) ?_
  refine lw_val rfl (run_assign (v := .int .i64 _) rfl) ?_
  refine lw_nil ?_
  refine cw_seq ?_
  refine cw_seq ?_
  refine cw_region ?_
  refine lw_val rfl (run_move (v := .int .i64 _) rfl) ?_
  refine lw_val rfl (run_lss rfl rfl) ?_
  refine lw_nil ?_
  refine cw_if rfl ?_ ?_
  · intro h10
    have g10 := of_decide_eq_true h10
    refine cw_region ?_
    refine lw_val rfl (run_move (v := .int .i64 _) rfl) ?_
    refine lw_val rfl (run_move (v := .int .i64 _) rfl) ?_
    refine lw_val rfl (run_add64 rfl rfl (c := n.tmod b + b) rfl (inI (by omega) (by omega))) ?_
    refine lw_val rfl (run_assign (v := .int .i64 _) rfl) ?_
    refine lw_nil ?_
    refine cw_seq ?_
    refine cw_region ?_
    refine lw_val rfl (run_move (v := .int .i64 _) rfl) ?_
    refine lw_val rfl (run_assign (v := .int .i64 _) rfl) ?_
    refine lw_nil ?_
    refine cw_ret ?_
    refine res1 (v := .int .i64 _) rfl rfl ?_
    exact ⟨_, rfl, by show Value.int .i64 (n.tmod b + b) = _; rw [he g10]; congr 1; omega, by omega, hs⟩
  · intro h10
    have g10 := of_decide_eq_false h10
    refine cw_skip ?_
    refine cw_seq ?_
    refine cw_region ?_
    refine lw_val rfl (run_move (v := .int .i64 _) rfl) ?_
    refine lw_val rfl (run_assign (v := .int .i64 _) rfl) ?_
    refine lw_nil ?_
    refine cw_ret ?_
    refine res1 (v := .int .i64 _) rfl rfl ?_
    exact ⟨_, rfl, by show Value.int .i64 (n.tmod b) = _; rw [hp g10]; congr 1; omega, by omega, hs⟩
/-- Bytes that are amiss are no view. -/
theorem readE_sl (hP : ErrP ad g) (hs : Mem g w L) {a : Option Addr} {n c : Nat} {b : List UInt8} (hr : Rd g L (.slice a n c) (bytesL b)) (hn : n = b.length) (hc : n ≤ c) (hlen : b.length ≤ 100000000) {k : Nat} {x : List UInt8} (hk : openL b = (k, x)) (h0 : k ≠ 0) :
    Calls Tryz.prog 33 #[.slice a n c] w (Ret fun v w' => v = .tuple #[.pointer none, errV ad k] ∧ Mem g w' L) := by
  refine calls_cw Tryz.func33 rfl rfl ?_
  skip
  refine cw_seq ?_
  refine cw_region ?_
  refine lw_val rfl (run_assign (v := .pointer none) rfl) ?_
  refine lw_val rfl (run_assign (v := .nilIface) rfl) ?_
  refine lw_nil ?_
  refine cw_seq ?_
  refine cw_region ?_
  refine lw_val rfl (run_move (v := .slice _ _ _) rfl) ?_
  refine lw_call rfl en115 (copen_sl hP hs hr hn hc hlen hk) ?_
  clear hs
  rintro _ w ⟨a19, c19, rfl, hs⟩
  refine lw_val rfl (run_move (v := .tuple _) rfl) ?_
  refine lw_val rfl (run_extract (v := .slice _ _ _) rfl rfl) ?_
  refine lw_val rfl (run_extract (v := errV ad _) rfl rfl) ?_
  refine lw_val rfl (run_assign (v := .slice _ _ _) rfl) ?_
  refine lw_val rfl (run_assign (v := errV ad _) rfl) ?_
  refine lw_nil ?_
  refine cw_seq ?_
  refine cw_seq ?_
  refine cw_region ?_
  refine lw_val rfl (run_move (v := errV ad _) rfl) ?_
  refine lw_val rfl (run_neerrn (ad := ad) rfl) ?_
  refine lw_nil ?_
  refine cw_ift rfl ((by rw [decide_eq_false h0]; rfl)) ?_
  refine cw_seq ?_
  refine cw_region ?_
  refine lw_val rfl (run_move (v := errV ad _) rfl) ?_
  refine lw_val rfl (run_assign (v := .pointer none) rfl) ?_
  refine lw_val rfl (run_assign (v := errV ad _) rfl) ?_
  refine lw_nil ?_
  refine cw_ret ?_
  refine res2 (v := .pointer none) (v2 := errV ad _) rfl rfl rfl ?_
  exact ⟨_, rfl, rfl, hs.tail⟩
/-! ### a byte is turned -/
theorem u8_nat (a : Nat) (ha : a < 256) : (BitVec.ofInt 8 (a : Int)).toNat = a := by
  rw [BitVec.ofInt_natCast, BitVec.toNat_ofNat]; exact Nat.mod_eq_of_lt (by omega)
theorem xor_u8 (a b : Nat) (ha : a < 256) (hb : b < 256) : bits .xor .u8 (a : Int) (b : Int) = ((a ^^^ b : Nat) : Int) := by
  have hx : a ^^^ b < 2 ^ 8 := Nat.xor_lt_two_pow (by omega) (by omega)
  show IntKind.u8.wrap ((BitVec.ofInt 8 (a : Int) ^^^ BitVec.ofInt 8 (b : Int)).toNat : Int) = _
  rw [BitVec.toNat_xor, u8_nat a ha, u8_nat b hb]
  simp [IntKind.wrap, IntKind.bits, IntKind.signed]
  omega
theorem xorB (u : UInt8) (k : Nat) (hk : k < 256) (h0 : k ≠ 0) : ∃ u2 : UInt8, u2 ≠ u ∧ bits .xor .u8 ((u.toNat : Nat) : Int) (k : Int) = ((u2.toNat : Nat) : Int) := by
  have hu := u.toNat_lt
  have hx : u.toNat ^^^ k < 2 ^ 8 := Nat.xor_lt_two_pow (by omega) (by omega)
  have h1 : (UInt8.ofNat (u.toNat ^^^ k)).toNat = u.toNat ^^^ k := by rw [UInt8.toNat_ofNat']; omega
  refine ⟨UInt8.ofNat (u.toNat ^^^ k), fun h => h0 ?_, by rw [h1]; exact xor_u8 _ _ (by omega) hk⟩
  have h2 := congrArg UInt8.toNat h
  rw [h1] at h2
  have h3 : u.toNat ^^^ (u.toNat ^^^ k) = u.toNat ^^^ u.toNat := congrArg _ h2
  rwa [← Nat.xor_assoc, Nat.xor_self, Nat.zero_xor] at h3
/-! ### a view's items in order -/
def itsOf (V : Vw) : List Itm := (sortI (keysOf V)).map fun k => (aget V k).getD ⟨0, Mf.z⟩
theorem sort_mem {V : Vw} {k : Int} (h : k ∈ sortI (keysOf V)) : k ∈ keysOf V := (List.mergeSort_perm _ _).mem_iff.1 h
theorem itsOf_len (V : Vw) : (itsOf V).length = V.length := by simp [itsOf, sortI_len, keysOf]
theorem itsOf_get {V : Vw} {k : Int} (h : k ∈ sortI (keysOf V)) : ∃ i, aget V k = some i ∧ (aget V k).getD ⟨0, Mf.z⟩ = i := by
  obtain ⟨i, hi⟩ := al_of_key (sort_mem h)
  exact ⟨i, hi, by rw [hi]; rfl⟩
theorem itsOf_bytes (V : Vw) : vwB V = sealL (vputL (itsOf V).length ++ (itsOf V).flatMap itB) := by
  have h : ∀ l : List Int, (∀ k ∈ l, k ∈ sortI (keysOf V)) → l.flatMap (itAt V) = (l.map fun k => (aget V k).getD ⟨0, Mf.z⟩).flatMap itB := by
    intro l
    induction l with
    | nil => intro _; rfl
    | cons k l ih =>
      intro h
      obtain ⟨i, h1, h2⟩ := itsOf_get (h k (List.mem_cons_self ..))
      simp only [List.flatMap_cons, List.map_cons, h2, itAt, h1, Option.elim]
      rw [← ih fun x hx => h x (List.mem_cons_of_mem _ hx)]
      rfl
  rw [vwB, vwBody, itsOf_len, h _ (fun _ h => h)]
  rfl
theorem itsOf_fine (ho : V.ok) (hu : V.sums) : ∀ i ∈ itsOf V, ItFine i := by
  intro i hi
  obtain ⟨k, hk, rfl⟩ := List.mem_map.1 hi
  obtain ⟨i, h1, h2⟩ := itsOf_get hk
  have h3 := ho.item h1
  simp only [h2]
  exact ⟨flt0 (mfF_ok _) h3.1, h3.2.2.1, h3.2.2.2.1, hu _ (aget_mem h1)⟩
theorem itsOf_id (ho : V.ok) {k : Int} (hk : k ∈ sortI (keysOf V)) : ((aget V k).getD ⟨0, Mf.z⟩).m.id = k := by
  obtain ⟨i, h1, h2⟩ := itsOf_get hk
  rw [h2]; exact (ho.item h1).2.1
theorem itsOf_rise (ho : V.ok) : (itsOf V).Pairwise fun x y => x.m.id < y.m.id := by
  have h1 : (sortI (keysOf V)).Pairwise (fun x y => decide (x ≤ y) = true) := List.pairwise_mergeSort (fun a b c h1 h2 => by simp only [decide_eq_true_eq] at *; omega) (fun a b => by simp only [Bool.or_eq_true, decide_eq_true_eq]; omega) _
  have h2 : (sortI (keysOf V)).Pairwise (fun x y => x ≠ y) := (List.mergeSort_perm _ _).nodup_iff.2 ho.nd
  rw [itsOf, List.pairwise_map]
  have h3 : (sortI (keysOf V)).Pairwise (fun x y => x < y) := (h1.and h2).imp fun ⟨a, b⟩ => by simp only [decide_eq_true_eq] at a; omega
  refine List.Pairwise.imp_of_mem (fun {x y} hx hy h => ?_) h3
  rw [itsOf_id ho hx, itsOf_id ho hy]
  exact h
theorem itsOf_keys (ho : V.ok) : vwOf (itsOf V) = (sortI (keysOf V)).map fun k => (k, (aget V k).getD ⟨0, Mf.z⟩) := by
  rw [vwOf, itsOf, List.map_map]
  refine List.map_congr_left fun k hk => ?_
  simp only [Function.comp, itsOf_id ho hk]
/-- What is read is the same view. -/
theorem itsOf_same (ho : V.ok) : SameP (vwOf (itsOf V)) V := by
  refine ⟨by rw [vwOf, List.length_map, itsOf_len], fun k i h => ?_⟩
  have h1 := aget_mem h
  rw [itsOf_keys ho] at h1
  obtain ⟨k', hk, e⟩ := List.mem_map.1 h1
  simp only [Prod.mk.injEq] at e
  obtain ⟨rfl, rfl⟩ := e
  obtain ⟨i, h2, h3⟩ := itsOf_get hk
  rw [h2]; rfl
end Go.Proofs.YtkogkokmcmallaaGreatDoor
