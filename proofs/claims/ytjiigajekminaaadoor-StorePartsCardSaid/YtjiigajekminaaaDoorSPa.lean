/- A part whose bytes are read alone; World's Bytes; what StoreParts reads. -/
import Derived.Test.YtjiigajekminaaaDoorLs
import Derived.Test.YtjiigajekminaaaDoorNb
import Derived.Test.YtjiigajekminaaaDoorT4
import Derived.Test.YtjiigajekminaaaDoorU2
import Derived.Test.YtjiigajekminaaaDoorLaid
namespace Go.Proofs.YtjiigajekminaaaDoor
set_option linter.all false
open Go.RowKit
attribute [local irreducible] errV
variable {g w : World} {L M : List HP} {ad : Nat → Addr} {p q : Nat} {st : St}

/-- It reads so in every world that has what lies in the ground. -/
def Came0 (g : World) (v : Value) (l : List Value) : Prop := ∀ w' : World, (∀ b, b < g.heap.size → w'.heap[b]? = g.heap[b]?) → seqV w' v l
theorem Came0.seq {v : Value} {l : List Value} (h : Came0 g v l) (hs : Mem g w L) : seqV w v l := h w hs.old
theorem Came.zero {v : Value} {l : List Value} (h : Came g v l) : Came0 g v l := fun w' k => h.1.heap fun b hb => k b (h.2 b hb)
theorem clone0_sl (hs : Mem g w L) {v : Value} {l : List UInt8} (h : seqV w v (bytesL l)) (hl : l.length ≤ 1073741824) : Calls Tryd.prog 69 #[v] w (Ret fun v w' => ∃ a c, v = .slice a (bytesL l).length c ∧ Mem g w' (own (.slice a (bytesL l).length c) (bytesL l) :: L)) :=
  newSeq_sl hs (clone_bytes v _ w h (bytesL_one l) (by simpa [bytesL] using hl))
theorem partC0_sl (hE : ErrG ad g) {sb ib kb bb : Nat} {id k : Int} {b : List UInt8} {a : Option Addr} {m c : Nat} (hs : Mem g w (StoreC p st :: cells bb [.slice a m c] 27 :: cells kb [.int .i64 k] 3 :: cells ib [.int .i64 id] 3 :: cells sb [.pointer (some ⟨p, 0, none⟩)] 24 :: M)) (hr : Came0 g (.slice a m c) (bytesL b)) (hlen : b.length ≤ 1073741824) :
    Calls Tryd.prog 96 #[.pointer (some ⟨sb, 0, none⟩), .pointer (some ⟨ib, 0, none⟩), .pointer (some ⟨kb, 0, none⟩), .pointer (some ⟨bb, 0, none⟩)] w (Ret fun v w' => v = errV ad (st.part1 id k b).1 ∧ Mem g w' (StoreC p (st.part1 id k b).2 :: cells bb [.slice a m c] 27 :: cells kb [.int .i64 k] 3 :: cells ib [.int .i64 id] 3 :: cells sb [.pointer (some ⟨p, 0, none⟩)] 24 :: M)) := by
  obtain ⟨mo, mu, sa, sn, sc, es, us, hn, hs⟩ := hs.openS
  simp only [storeParts, List.cons_append, List.nil_append] at hs
  have hky := hs.famKeys 4 rfl
  cases ho : aget st.ups id with
  | none =>
    have he : aget (us.map upPtr) id = none := by rw [up_aget, fam_none hky ho]; rfl
    have hp : st.part1 id k b = (107, st) := by simp [St.part1, ho]
    rw [hp]
    refine calls_cw Tryd.func96 rfl rfl ?_
    skip
    refine cw_seq ?_
    refine cw_region ?_
    first | refine lw_val rfl (run_assign (v := errV ad _) rfl) ?_ | refine lw_val rfl (run_assign (v := .nilIface) rfl) ?_
    refine lw_nil ?_
    refine cw_seq ?_
    refine cw_drawS mixes hs ?_
    intro w tr hK
    replace hs := tr _ hs
    clear tr
    first | refine aw_take 0 rfl (by kernel_rfl) (by kernel_rfl) (by kernel_rfl) rfl (fun w hs => run_load Tryd.underlying24 rfl rfl (hs.cellAt 0 rfl rfl)) hK ?_ | refine aw_take 0 rfl (by kernel_rfl) (by kernel_rfl) (by kernel_rfl) rfl (fun w hs => run_load Tryd.underlying24 rfl rfl (hs.cellAt 1 rfl rfl)) hK ?_ | refine aw_take 0 rfl (by kernel_rfl) (by kernel_rfl) (by kernel_rfl) rfl (fun w hs => run_load Tryd.underlying24 rfl rfl (hs.cellAt 2 rfl rfl)) hK ?_ | refine aw_take 0 rfl (by kernel_rfl) (by kernel_rfl) (by kernel_rfl) rfl (fun w hs => run_load Tryd.underlying24 rfl rfl (hs.cellAt 3 rfl rfl)) hK ?_ | refine aw_take 0 rfl (by kernel_rfl) (by kernel_rfl) (by kernel_rfl) rfl (fun w hs => run_load Tryd.underlying24 rfl rfl (hs.cellAt 4 rfl rfl)) hK ?_ | refine aw_take 0 rfl (by kernel_rfl) (by kernel_rfl) (by kernel_rfl) rfl (fun w hs => run_load Tryd.underlying24 rfl rfl (hs.cellAt 5 rfl rfl)) hK ?_ | refine aw_take 0 rfl (by kernel_rfl) (by kernel_rfl) (by kernel_rfl) rfl (fun w hs => run_load Tryd.underlying24 rfl rfl (hs.cellAt 6 rfl rfl)) hK ?_ | refine aw_take 0 rfl (by kernel_rfl) (by kernel_rfl) (by kernel_rfl) rfl (fun w hs => run_load Tryd.underlying24 rfl rfl (hs.cellAt 7 rfl rfl)) hK ?_ | refine aw_take 0 rfl (by kernel_rfl) (by kernel_rfl) (by kernel_rfl) rfl (fun w hs => run_load Tryd.underlying24 rfl rfl (hs.cellAt 8 rfl rfl)) hK ?_ | refine aw_take 0 rfl (by kernel_rfl) (by kernel_rfl) (by kernel_rfl) rfl (fun w hs => run_load Tryd.underlying24 rfl rfl (hs.cellAt 9 rfl rfl)) hK ?_ | refine aw_take 0 rfl (by kernel_rfl) (by kernel_rfl) (by kernel_rfl) rfl (fun w hs => run_load Tryd.underlying24 rfl rfl (hs.cellAt 10 rfl rfl)) hK ?_ | refine aw_take 0 rfl (by kernel_rfl) (by kernel_rfl) (by kernel_rfl) rfl (fun w hs => run_load Tryd.underlying24 rfl rfl (hs.cellAt 11 rfl rfl)) hK ?_ | refine aw_take 0 rfl (by kernel_rfl) (by kernel_rfl) (by kernel_rfl) rfl (fun w hs => run_load Tryd.underlying24 rfl rfl (hs.cellAt 12 rfl rfl)) hK ?_ | refine aw_take 0 rfl (by kernel_rfl) (by kernel_rfl) (by kernel_rfl) rfl (fun w hs => run_load Tryd.underlying24 rfl rfl (hs.cellAt 13 rfl rfl)) hK ?_
    refine aw_take 1 rfl (by kernel_rfl) (by kernel_rfl) (by kernel_rfl) rfl (fun w hs => run_nilCheckP rfl) hK ?_
    first | refine aw_take 2 rfl (by kernel_rfl) (by kernel_rfl) (by kernel_rfl) rfl (fun w hs => run_fieldAddr (o' := 1) Tryd.underlying94 rfl sz92 rfl rfl rfl) hK ?_ | refine aw_take 2 rfl (by kernel_rfl) (by kernel_rfl) (by kernel_rfl) rfl (fun w hs => run_fieldAddr Tryd.underlying94 rfl sz92 rfl rfl rfl) hK ?_
    first | refine aw_take 3 rfl (by kernel_rfl) (by kernel_rfl) (by kernel_rfl) rfl (fun w hs => run_load Tryd.underlying92 rfl rfl (hs.cellAt 0 rfl rfl)) hK ?_ | refine aw_take 3 rfl (by kernel_rfl) (by kernel_rfl) (by kernel_rfl) rfl (fun w hs => run_load Tryd.underlying92 rfl rfl (hs.cellAt 1 rfl rfl)) hK ?_ | refine aw_take 3 rfl (by kernel_rfl) (by kernel_rfl) (by kernel_rfl) rfl (fun w hs => run_load Tryd.underlying92 rfl rfl (hs.cellAt 2 rfl rfl)) hK ?_ | refine aw_take 3 rfl (by kernel_rfl) (by kernel_rfl) (by kernel_rfl) rfl (fun w hs => run_load Tryd.underlying92 rfl rfl (hs.cellAt 3 rfl rfl)) hK ?_ | refine aw_take 3 rfl (by kernel_rfl) (by kernel_rfl) (by kernel_rfl) rfl (fun w hs => run_load Tryd.underlying92 rfl rfl (hs.cellAt 4 rfl rfl)) hK ?_ | refine aw_take 3 rfl (by kernel_rfl) (by kernel_rfl) (by kernel_rfl) rfl (fun w hs => run_load Tryd.underlying92 rfl rfl (hs.cellAt 5 rfl rfl)) hK ?_ | refine aw_take 3 rfl (by kernel_rfl) (by kernel_rfl) (by kernel_rfl) rfl (fun w hs => run_load Tryd.underlying92 rfl rfl (hs.cellAt 6 rfl rfl)) hK ?_ | refine aw_take 3 rfl (by kernel_rfl) (by kernel_rfl) (by kernel_rfl) rfl (fun w hs => run_load Tryd.underlying92 rfl rfl (hs.cellAt 7 rfl rfl)) hK ?_ | refine aw_take 3 rfl (by kernel_rfl) (by kernel_rfl) (by kernel_rfl) rfl (fun w hs => run_load Tryd.underlying92 rfl rfl (hs.cellAt 8 rfl rfl)) hK ?_ | refine aw_take 3 rfl (by kernel_rfl) (by kernel_rfl) (by kernel_rfl) rfl (fun w hs => run_load Tryd.underlying92 rfl rfl (hs.cellAt 9 rfl rfl)) hK ?_ | refine aw_take 3 rfl (by kernel_rfl) (by kernel_rfl) (by kernel_rfl) rfl (fun w hs => run_load Tryd.underlying92 rfl rfl (hs.cellAt 10 rfl rfl)) hK ?_ | refine aw_take 3 rfl (by kernel_rfl) (by kernel_rfl) (by kernel_rfl) rfl (fun w hs => run_load Tryd.underlying92 rfl rfl (hs.cellAt 11 rfl rfl)) hK ?_ | refine aw_take 3 rfl (by kernel_rfl) (by kernel_rfl) (by kernel_rfl) rfl (fun w hs => run_load Tryd.underlying92 rfl rfl (hs.cellAt 12 rfl rfl)) hK ?_ | refine aw_take 3 rfl (by kernel_rfl) (by kernel_rfl) (by kernel_rfl) rfl (fun w hs => run_load Tryd.underlying92 rfl rfl (hs.cellAt 13 rfl rfl)) hK ?_
    first | refine aw_take 4 rfl (by kernel_rfl) (by kernel_rfl) (by kernel_rfl) rfl (fun w hs => run_load Tryd.underlying3 rfl rfl (hs.cellAt 0 rfl rfl)) hK ?_ | refine aw_take 4 rfl (by kernel_rfl) (by kernel_rfl) (by kernel_rfl) rfl (fun w hs => run_load Tryd.underlying3 rfl rfl (hs.cellAt 1 rfl rfl)) hK ?_ | refine aw_take 4 rfl (by kernel_rfl) (by kernel_rfl) (by kernel_rfl) rfl (fun w hs => run_load Tryd.underlying3 rfl rfl (hs.cellAt 2 rfl rfl)) hK ?_ | refine aw_take 4 rfl (by kernel_rfl) (by kernel_rfl) (by kernel_rfl) rfl (fun w hs => run_load Tryd.underlying3 rfl rfl (hs.cellAt 3 rfl rfl)) hK ?_ | refine aw_take 4 rfl (by kernel_rfl) (by kernel_rfl) (by kernel_rfl) rfl (fun w hs => run_load Tryd.underlying3 rfl rfl (hs.cellAt 4 rfl rfl)) hK ?_ | refine aw_take 4 rfl (by kernel_rfl) (by kernel_rfl) (by kernel_rfl) rfl (fun w hs => run_load Tryd.underlying3 rfl rfl (hs.cellAt 5 rfl rfl)) hK ?_ | refine aw_take 4 rfl (by kernel_rfl) (by kernel_rfl) (by kernel_rfl) rfl (fun w hs => run_load Tryd.underlying3 rfl rfl (hs.cellAt 6 rfl rfl)) hK ?_ | refine aw_take 4 rfl (by kernel_rfl) (by kernel_rfl) (by kernel_rfl) rfl (fun w hs => run_load Tryd.underlying3 rfl rfl (hs.cellAt 7 rfl rfl)) hK ?_ | refine aw_take 4 rfl (by kernel_rfl) (by kernel_rfl) (by kernel_rfl) rfl (fun w hs => run_load Tryd.underlying3 rfl rfl (hs.cellAt 8 rfl rfl)) hK ?_ | refine aw_take 4 rfl (by kernel_rfl) (by kernel_rfl) (by kernel_rfl) rfl (fun w hs => run_load Tryd.underlying3 rfl rfl (hs.cellAt 9 rfl rfl)) hK ?_ | refine aw_take 4 rfl (by kernel_rfl) (by kernel_rfl) (by kernel_rfl) rfl (fun w hs => run_load Tryd.underlying3 rfl rfl (hs.cellAt 10 rfl rfl)) hK ?_ | refine aw_take 4 rfl (by kernel_rfl) (by kernel_rfl) (by kernel_rfl) rfl (fun w hs => run_load Tryd.underlying3 rfl rfl (hs.cellAt 11 rfl rfl)) hK ?_ | refine aw_take 4 rfl (by kernel_rfl) (by kernel_rfl) (by kernel_rfl) rfl (fun w hs => run_load Tryd.underlying3 rfl rfl (hs.cellAt 12 rfl rfl)) hK ?_ | refine aw_take 4 rfl (by kernel_rfl) (by kernel_rfl) (by kernel_rfl) rfl (fun w hs => run_load Tryd.underlying3 rfl rfl (hs.cellAt 13 rfl rfl)) hK ?_
    first | refine aw_take 5 rfl (by kernel_rfl) (by kernel_rfl) (by kernel_rfl) rfl (fun w hs => run_lookup (hs.mapAt 0 rfl) intKind Tryd.underlying92 Tryd.underlying3 ze108 rfl rfl he) hK ?_ | refine aw_take 5 rfl (by kernel_rfl) (by kernel_rfl) (by kernel_rfl) rfl (fun w hs => run_lookup (hs.mapAt 1 rfl) intKind Tryd.underlying92 Tryd.underlying3 ze108 rfl rfl he) hK ?_ | refine aw_take 5 rfl (by kernel_rfl) (by kernel_rfl) (by kernel_rfl) rfl (fun w hs => run_lookup (hs.mapAt 2 rfl) intKind Tryd.underlying92 Tryd.underlying3 ze108 rfl rfl he) hK ?_ | refine aw_take 5 rfl (by kernel_rfl) (by kernel_rfl) (by kernel_rfl) rfl (fun w hs => run_lookup (hs.mapAt 3 rfl) intKind Tryd.underlying92 Tryd.underlying3 ze108 rfl rfl he) hK ?_ | refine aw_take 5 rfl (by kernel_rfl) (by kernel_rfl) (by kernel_rfl) rfl (fun w hs => run_lookup (hs.mapAt 4 rfl) intKind Tryd.underlying92 Tryd.underlying3 ze108 rfl rfl he) hK ?_ | refine aw_take 5 rfl (by kernel_rfl) (by kernel_rfl) (by kernel_rfl) rfl (fun w hs => run_lookup (hs.mapAt 5 rfl) intKind Tryd.underlying92 Tryd.underlying3 ze108 rfl rfl he) hK ?_ | refine aw_take 5 rfl (by kernel_rfl) (by kernel_rfl) (by kernel_rfl) rfl (fun w hs => run_lookup (hs.mapAt 6 rfl) intKind Tryd.underlying92 Tryd.underlying3 ze108 rfl rfl he) hK ?_ | refine aw_take 5 rfl (by kernel_rfl) (by kernel_rfl) (by kernel_rfl) rfl (fun w hs => run_lookup (hs.mapAt 7 rfl) intKind Tryd.underlying92 Tryd.underlying3 ze108 rfl rfl he) hK ?_ | refine aw_take 5 rfl (by kernel_rfl) (by kernel_rfl) (by kernel_rfl) rfl (fun w hs => run_lookup (hs.mapAt 8 rfl) intKind Tryd.underlying92 Tryd.underlying3 ze108 rfl rfl he) hK ?_ | refine aw_take 5 rfl (by kernel_rfl) (by kernel_rfl) (by kernel_rfl) rfl (fun w hs => run_lookup (hs.mapAt 9 rfl) intKind Tryd.underlying92 Tryd.underlying3 ze108 rfl rfl he) hK ?_ | refine aw_take 5 rfl (by kernel_rfl) (by kernel_rfl) (by kernel_rfl) rfl (fun w hs => run_lookup (hs.mapAt 10 rfl) intKind Tryd.underlying92 Tryd.underlying3 ze108 rfl rfl he) hK ?_ | refine aw_take 5 rfl (by kernel_rfl) (by kernel_rfl) (by kernel_rfl) rfl (fun w hs => run_lookup (hs.mapAt 11 rfl) intKind Tryd.underlying92 Tryd.underlying3 ze108 rfl rfl he) hK ?_ | refine aw_take 5 rfl (by kernel_rfl) (by kernel_rfl) (by kernel_rfl) rfl (fun w hs => run_lookup (hs.mapAt 12 rfl) intKind Tryd.underlying92 Tryd.underlying3 ze108 rfl rfl he) hK ?_ | refine aw_take 5 rfl (by kernel_rfl) (by kernel_rfl) (by kernel_rfl) rfl (fun w hs => run_lookup (hs.mapAt 13 rfl) intKind Tryd.underlying92 Tryd.underlying3 ze108 rfl rfl he) hK ?_
    first | refine aw_take 6 rfl (by kernel_rfl) (by kernel_rfl) (by kernel_rfl) rfl (fun w hs => run_assign (v := .pointer (some _)) rfl) hK ?_ | refine aw_take 6 rfl (by kernel_rfl) (by kernel_rfl) (by kernel_rfl) rfl (fun w hs => run_assign (v := .pointer none) rfl) hK ?_
    refine aw_done (by kernel_rfl) ?_
    clear hK
    refine cw_seq ?_
    refine cw_block ?_
    refine cw_seq ?_
    refine cw_region ?_
    first | refine lw_val rfl (run_move (v := .pointer (some _)) rfl) ?_ | refine lw_val rfl (run_move (v := .pointer none) rfl) ?_
    refine lw_val rfl (run_eqpn Tryd.underlying108 rfl rfl) ?_
    first | refine lw_val rfl (run_assign (v := .bool _) rfl) ?_
    refine lw_nil ?_
    refine cw_ift rfl (rfl) ?_
    refine cw_seq ?_
    refine cw_region ?_
    refine lw_val rfl (run_load Tryd.underlying29 rfl rfl (hE.cellW hs 107 (by decide) rfl)) ?_
    first | refine lw_val rfl (run_assign (v := errV ad _) rfl) ?_ | refine lw_val rfl (run_assign (v := .nilIface) rfl) ?_
    refine lw_nil ?_
    refine cw_ret ?_
    first | refine res1 (v := errV ad _) rfl rfl ?_ | refine res1 (v := .nilIface) rfl rfl ?_
    exact ⟨_, rfl, rfl, hs.closeS⟩
  | some u =>
    obtain ⟨⟨ub, pm⟩, hu⟩ := fam_some hky ho
    have he : aget (us.map upPtr) id = some (.pointer (some ⟨ub, 0, none⟩)) := by rw [up_aget, hu]; rfl
    have hbad : k < 0 ∨ 256 ≤ k → st.part1 id k b = (105, st) := fun h => by simp only [St.part1, ho]; rw [if_pos h]
    refine calls_cw Tryd.func96 rfl rfl ?_
    skip
    refine cw_seq ?_
    refine cw_region ?_
    first | refine lw_val rfl (run_assign (v := errV ad _) rfl) ?_ | refine lw_val rfl (run_assign (v := .nilIface) rfl) ?_
    refine lw_nil ?_
    refine cw_seq ?_
    refine cw_drawS mixes hs ?_
    intro w tr hK
    replace hs := tr _ hs
    clear tr
    first | refine aw_take 0 rfl (by kernel_rfl) (by kernel_rfl) (by kernel_rfl) rfl (fun w hs => run_load Tryd.underlying24 rfl rfl (hs.cellAt 0 rfl rfl)) hK ?_ | refine aw_take 0 rfl (by kernel_rfl) (by kernel_rfl) (by kernel_rfl) rfl (fun w hs => run_load Tryd.underlying24 rfl rfl (hs.cellAt 1 rfl rfl)) hK ?_ | refine aw_take 0 rfl (by kernel_rfl) (by kernel_rfl) (by kernel_rfl) rfl (fun w hs => run_load Tryd.underlying24 rfl rfl (hs.cellAt 2 rfl rfl)) hK ?_ | refine aw_take 0 rfl (by kernel_rfl) (by kernel_rfl) (by kernel_rfl) rfl (fun w hs => run_load Tryd.underlying24 rfl rfl (hs.cellAt 3 rfl rfl)) hK ?_ | refine aw_take 0 rfl (by kernel_rfl) (by kernel_rfl) (by kernel_rfl) rfl (fun w hs => run_load Tryd.underlying24 rfl rfl (hs.cellAt 4 rfl rfl)) hK ?_ | refine aw_take 0 rfl (by kernel_rfl) (by kernel_rfl) (by kernel_rfl) rfl (fun w hs => run_load Tryd.underlying24 rfl rfl (hs.cellAt 5 rfl rfl)) hK ?_ | refine aw_take 0 rfl (by kernel_rfl) (by kernel_rfl) (by kernel_rfl) rfl (fun w hs => run_load Tryd.underlying24 rfl rfl (hs.cellAt 6 rfl rfl)) hK ?_ | refine aw_take 0 rfl (by kernel_rfl) (by kernel_rfl) (by kernel_rfl) rfl (fun w hs => run_load Tryd.underlying24 rfl rfl (hs.cellAt 7 rfl rfl)) hK ?_ | refine aw_take 0 rfl (by kernel_rfl) (by kernel_rfl) (by kernel_rfl) rfl (fun w hs => run_load Tryd.underlying24 rfl rfl (hs.cellAt 8 rfl rfl)) hK ?_ | refine aw_take 0 rfl (by kernel_rfl) (by kernel_rfl) (by kernel_rfl) rfl (fun w hs => run_load Tryd.underlying24 rfl rfl (hs.cellAt 9 rfl rfl)) hK ?_ | refine aw_take 0 rfl (by kernel_rfl) (by kernel_rfl) (by kernel_rfl) rfl (fun w hs => run_load Tryd.underlying24 rfl rfl (hs.cellAt 10 rfl rfl)) hK ?_ | refine aw_take 0 rfl (by kernel_rfl) (by kernel_rfl) (by kernel_rfl) rfl (fun w hs => run_load Tryd.underlying24 rfl rfl (hs.cellAt 11 rfl rfl)) hK ?_ | refine aw_take 0 rfl (by kernel_rfl) (by kernel_rfl) (by kernel_rfl) rfl (fun w hs => run_load Tryd.underlying24 rfl rfl (hs.cellAt 12 rfl rfl)) hK ?_ | refine aw_take 0 rfl (by kernel_rfl) (by kernel_rfl) (by kernel_rfl) rfl (fun w hs => run_load Tryd.underlying24 rfl rfl (hs.cellAt 13 rfl rfl)) hK ?_
    refine aw_take 1 rfl (by kernel_rfl) (by kernel_rfl) (by kernel_rfl) rfl (fun w hs => run_nilCheckP rfl) hK ?_
    first | refine aw_take 2 rfl (by kernel_rfl) (by kernel_rfl) (by kernel_rfl) rfl (fun w hs => run_fieldAddr (o' := 1) Tryd.underlying94 rfl sz92 rfl rfl rfl) hK ?_ | refine aw_take 2 rfl (by kernel_rfl) (by kernel_rfl) (by kernel_rfl) rfl (fun w hs => run_fieldAddr Tryd.underlying94 rfl sz92 rfl rfl rfl) hK ?_
    first | refine aw_take 3 rfl (by kernel_rfl) (by kernel_rfl) (by kernel_rfl) rfl (fun w hs => run_load Tryd.underlying92 rfl rfl (hs.cellAt 0 rfl rfl)) hK ?_ | refine aw_take 3 rfl (by kernel_rfl) (by kernel_rfl) (by kernel_rfl) rfl (fun w hs => run_load Tryd.underlying92 rfl rfl (hs.cellAt 1 rfl rfl)) hK ?_ | refine aw_take 3 rfl (by kernel_rfl) (by kernel_rfl) (by kernel_rfl) rfl (fun w hs => run_load Tryd.underlying92 rfl rfl (hs.cellAt 2 rfl rfl)) hK ?_ | refine aw_take 3 rfl (by kernel_rfl) (by kernel_rfl) (by kernel_rfl) rfl (fun w hs => run_load Tryd.underlying92 rfl rfl (hs.cellAt 3 rfl rfl)) hK ?_ | refine aw_take 3 rfl (by kernel_rfl) (by kernel_rfl) (by kernel_rfl) rfl (fun w hs => run_load Tryd.underlying92 rfl rfl (hs.cellAt 4 rfl rfl)) hK ?_ | refine aw_take 3 rfl (by kernel_rfl) (by kernel_rfl) (by kernel_rfl) rfl (fun w hs => run_load Tryd.underlying92 rfl rfl (hs.cellAt 5 rfl rfl)) hK ?_ | refine aw_take 3 rfl (by kernel_rfl) (by kernel_rfl) (by kernel_rfl) rfl (fun w hs => run_load Tryd.underlying92 rfl rfl (hs.cellAt 6 rfl rfl)) hK ?_ | refine aw_take 3 rfl (by kernel_rfl) (by kernel_rfl) (by kernel_rfl) rfl (fun w hs => run_load Tryd.underlying92 rfl rfl (hs.cellAt 7 rfl rfl)) hK ?_ | refine aw_take 3 rfl (by kernel_rfl) (by kernel_rfl) (by kernel_rfl) rfl (fun w hs => run_load Tryd.underlying92 rfl rfl (hs.cellAt 8 rfl rfl)) hK ?_ | refine aw_take 3 rfl (by kernel_rfl) (by kernel_rfl) (by kernel_rfl) rfl (fun w hs => run_load Tryd.underlying92 rfl rfl (hs.cellAt 9 rfl rfl)) hK ?_ | refine aw_take 3 rfl (by kernel_rfl) (by kernel_rfl) (by kernel_rfl) rfl (fun w hs => run_load Tryd.underlying92 rfl rfl (hs.cellAt 10 rfl rfl)) hK ?_ | refine aw_take 3 rfl (by kernel_rfl) (by kernel_rfl) (by kernel_rfl) rfl (fun w hs => run_load Tryd.underlying92 rfl rfl (hs.cellAt 11 rfl rfl)) hK ?_ | refine aw_take 3 rfl (by kernel_rfl) (by kernel_rfl) (by kernel_rfl) rfl (fun w hs => run_load Tryd.underlying92 rfl rfl (hs.cellAt 12 rfl rfl)) hK ?_ | refine aw_take 3 rfl (by kernel_rfl) (by kernel_rfl) (by kernel_rfl) rfl (fun w hs => run_load Tryd.underlying92 rfl rfl (hs.cellAt 13 rfl rfl)) hK ?_
    first | refine aw_take 4 rfl (by kernel_rfl) (by kernel_rfl) (by kernel_rfl) rfl (fun w hs => run_load Tryd.underlying3 rfl rfl (hs.cellAt 0 rfl rfl)) hK ?_ | refine aw_take 4 rfl (by kernel_rfl) (by kernel_rfl) (by kernel_rfl) rfl (fun w hs => run_load Tryd.underlying3 rfl rfl (hs.cellAt 1 rfl rfl)) hK ?_ | refine aw_take 4 rfl (by kernel_rfl) (by kernel_rfl) (by kernel_rfl) rfl (fun w hs => run_load Tryd.underlying3 rfl rfl (hs.cellAt 2 rfl rfl)) hK ?_ | refine aw_take 4 rfl (by kernel_rfl) (by kernel_rfl) (by kernel_rfl) rfl (fun w hs => run_load Tryd.underlying3 rfl rfl (hs.cellAt 3 rfl rfl)) hK ?_ | refine aw_take 4 rfl (by kernel_rfl) (by kernel_rfl) (by kernel_rfl) rfl (fun w hs => run_load Tryd.underlying3 rfl rfl (hs.cellAt 4 rfl rfl)) hK ?_ | refine aw_take 4 rfl (by kernel_rfl) (by kernel_rfl) (by kernel_rfl) rfl (fun w hs => run_load Tryd.underlying3 rfl rfl (hs.cellAt 5 rfl rfl)) hK ?_ | refine aw_take 4 rfl (by kernel_rfl) (by kernel_rfl) (by kernel_rfl) rfl (fun w hs => run_load Tryd.underlying3 rfl rfl (hs.cellAt 6 rfl rfl)) hK ?_ | refine aw_take 4 rfl (by kernel_rfl) (by kernel_rfl) (by kernel_rfl) rfl (fun w hs => run_load Tryd.underlying3 rfl rfl (hs.cellAt 7 rfl rfl)) hK ?_ | refine aw_take 4 rfl (by kernel_rfl) (by kernel_rfl) (by kernel_rfl) rfl (fun w hs => run_load Tryd.underlying3 rfl rfl (hs.cellAt 8 rfl rfl)) hK ?_ | refine aw_take 4 rfl (by kernel_rfl) (by kernel_rfl) (by kernel_rfl) rfl (fun w hs => run_load Tryd.underlying3 rfl rfl (hs.cellAt 9 rfl rfl)) hK ?_ | refine aw_take 4 rfl (by kernel_rfl) (by kernel_rfl) (by kernel_rfl) rfl (fun w hs => run_load Tryd.underlying3 rfl rfl (hs.cellAt 10 rfl rfl)) hK ?_ | refine aw_take 4 rfl (by kernel_rfl) (by kernel_rfl) (by kernel_rfl) rfl (fun w hs => run_load Tryd.underlying3 rfl rfl (hs.cellAt 11 rfl rfl)) hK ?_ | refine aw_take 4 rfl (by kernel_rfl) (by kernel_rfl) (by kernel_rfl) rfl (fun w hs => run_load Tryd.underlying3 rfl rfl (hs.cellAt 12 rfl rfl)) hK ?_ | refine aw_take 4 rfl (by kernel_rfl) (by kernel_rfl) (by kernel_rfl) rfl (fun w hs => run_load Tryd.underlying3 rfl rfl (hs.cellAt 13 rfl rfl)) hK ?_
    first | refine aw_take 5 rfl (by kernel_rfl) (by kernel_rfl) (by kernel_rfl) rfl (fun w hs => run_lookup (hs.mapAt 0 rfl) intKind Tryd.underlying92 Tryd.underlying3 ze108 rfl rfl he) hK ?_ | refine aw_take 5 rfl (by kernel_rfl) (by kernel_rfl) (by kernel_rfl) rfl (fun w hs => run_lookup (hs.mapAt 1 rfl) intKind Tryd.underlying92 Tryd.underlying3 ze108 rfl rfl he) hK ?_ | refine aw_take 5 rfl (by kernel_rfl) (by kernel_rfl) (by kernel_rfl) rfl (fun w hs => run_lookup (hs.mapAt 2 rfl) intKind Tryd.underlying92 Tryd.underlying3 ze108 rfl rfl he) hK ?_ | refine aw_take 5 rfl (by kernel_rfl) (by kernel_rfl) (by kernel_rfl) rfl (fun w hs => run_lookup (hs.mapAt 3 rfl) intKind Tryd.underlying92 Tryd.underlying3 ze108 rfl rfl he) hK ?_ | refine aw_take 5 rfl (by kernel_rfl) (by kernel_rfl) (by kernel_rfl) rfl (fun w hs => run_lookup (hs.mapAt 4 rfl) intKind Tryd.underlying92 Tryd.underlying3 ze108 rfl rfl he) hK ?_ | refine aw_take 5 rfl (by kernel_rfl) (by kernel_rfl) (by kernel_rfl) rfl (fun w hs => run_lookup (hs.mapAt 5 rfl) intKind Tryd.underlying92 Tryd.underlying3 ze108 rfl rfl he) hK ?_ | refine aw_take 5 rfl (by kernel_rfl) (by kernel_rfl) (by kernel_rfl) rfl (fun w hs => run_lookup (hs.mapAt 6 rfl) intKind Tryd.underlying92 Tryd.underlying3 ze108 rfl rfl he) hK ?_ | refine aw_take 5 rfl (by kernel_rfl) (by kernel_rfl) (by kernel_rfl) rfl (fun w hs => run_lookup (hs.mapAt 7 rfl) intKind Tryd.underlying92 Tryd.underlying3 ze108 rfl rfl he) hK ?_ | refine aw_take 5 rfl (by kernel_rfl) (by kernel_rfl) (by kernel_rfl) rfl (fun w hs => run_lookup (hs.mapAt 8 rfl) intKind Tryd.underlying92 Tryd.underlying3 ze108 rfl rfl he) hK ?_ | refine aw_take 5 rfl (by kernel_rfl) (by kernel_rfl) (by kernel_rfl) rfl (fun w hs => run_lookup (hs.mapAt 9 rfl) intKind Tryd.underlying92 Tryd.underlying3 ze108 rfl rfl he) hK ?_ | refine aw_take 5 rfl (by kernel_rfl) (by kernel_rfl) (by kernel_rfl) rfl (fun w hs => run_lookup (hs.mapAt 10 rfl) intKind Tryd.underlying92 Tryd.underlying3 ze108 rfl rfl he) hK ?_ | refine aw_take 5 rfl (by kernel_rfl) (by kernel_rfl) (by kernel_rfl) rfl (fun w hs => run_lookup (hs.mapAt 11 rfl) intKind Tryd.underlying92 Tryd.underlying3 ze108 rfl rfl he) hK ?_ | refine aw_take 5 rfl (by kernel_rfl) (by kernel_rfl) (by kernel_rfl) rfl (fun w hs => run_lookup (hs.mapAt 12 rfl) intKind Tryd.underlying92 Tryd.underlying3 ze108 rfl rfl he) hK ?_ | refine aw_take 5 rfl (by kernel_rfl) (by kernel_rfl) (by kernel_rfl) rfl (fun w hs => run_lookup (hs.mapAt 13 rfl) intKind Tryd.underlying92 Tryd.underlying3 ze108 rfl rfl he) hK ?_
    first | refine aw_take 6 rfl (by kernel_rfl) (by kernel_rfl) (by kernel_rfl) rfl (fun w hs => run_assign (v := .pointer (some _)) rfl) hK ?_ | refine aw_take 6 rfl (by kernel_rfl) (by kernel_rfl) (by kernel_rfl) rfl (fun w hs => run_assign (v := .pointer none) rfl) hK ?_
    refine aw_done (by kernel_rfl) ?_
    clear hK
    refine cw_seq ?_
    refine cw_block ?_
    refine cw_seq ?_
    refine cw_region ?_
    first | refine lw_val rfl (run_move (v := .pointer (some _)) rfl) ?_ | refine lw_val rfl (run_move (v := .pointer none) rfl) ?_
    refine lw_val rfl (run_eqpn Tryd.underlying108 rfl rfl) ?_
    first | refine lw_val rfl (run_assign (v := .bool _) rfl) ?_
    refine lw_nil ?_
    refine cw_iff rfl rfl ?_
    refine cw_seq ?_
    refine cw_region ?_
    first | refine lw_val rfl (run_load Tryd.underlying3 rfl rfl (hs.cellAt 0 rfl rfl)) ?_ | refine lw_val rfl (run_load Tryd.underlying3 rfl rfl (hs.cellAt 1 rfl rfl)) ?_ | refine lw_val rfl (run_load Tryd.underlying3 rfl rfl (hs.cellAt 2 rfl rfl)) ?_ | refine lw_val rfl (run_load Tryd.underlying3 rfl rfl (hs.cellAt 3 rfl rfl)) ?_ | refine lw_val rfl (run_load Tryd.underlying3 rfl rfl (hs.cellAt 4 rfl rfl)) ?_ | refine lw_val rfl (run_load Tryd.underlying3 rfl rfl (hs.cellAt 5 rfl rfl)) ?_ | refine lw_val rfl (run_load Tryd.underlying3 rfl rfl (hs.cellAt 6 rfl rfl)) ?_ | refine lw_val rfl (run_load Tryd.underlying3 rfl rfl (hs.cellAt 7 rfl rfl)) ?_ | refine lw_val rfl (run_load Tryd.underlying3 rfl rfl (hs.cellAt 8 rfl rfl)) ?_ | refine lw_val rfl (run_load Tryd.underlying3 rfl rfl (hs.cellAt 9 rfl rfl)) ?_ | refine lw_val rfl (run_load Tryd.underlying3 rfl rfl (hs.cellAt 10 rfl rfl)) ?_ | refine lw_val rfl (run_load Tryd.underlying3 rfl rfl (hs.cellAt 11 rfl rfl)) ?_ | refine lw_val rfl (run_load Tryd.underlying3 rfl rfl (hs.cellAt 12 rfl rfl)) ?_ | refine lw_val rfl (run_load Tryd.underlying3 rfl rfl (hs.cellAt 13 rfl rfl)) ?_
    refine lw_val rfl (run_lss rfl rfl) ?_
    first | refine lw_val rfl (run_move (v := .bool _) rfl) ?_
    refine lw_split (t := _) (d := 19) rfl ?_ ?_
    · intro h18
      have g18 := of_decide_eq_true h18
      refine lw_off rfl rfl rfl h18 ?_
      refine lw_off rfl rfl rfl h18 ?_
      first | refine lw_val rfl (run_pickT (v := .bool _) rfl h18 rfl) ?_
      first | refine lw_val rfl (run_assign (v := .bool _) rfl) ?_
      refine lw_nil ?_
      refine cw_ift rfl rfl ?_
      refine cw_seq ?_
      refine cw_region ?_
      refine lw_val rfl (run_load Tryd.underlying29 rfl rfl (hE.cellW hs 105 (by decide) rfl)) ?_
      first | refine lw_val rfl (run_assign (v := errV ad _) rfl) ?_ | refine lw_val rfl (run_assign (v := .nilIface) rfl) ?_
      refine lw_nil ?_
      refine cw_ret ?_
      first | refine res1 (v := errV ad _) rfl rfl ?_ | refine res1 (v := .nilIface) rfl rfl ?_
      rw [hbad (by omega)]
      exact ⟨_, rfl, rfl, hs.closeS⟩
    · intro h18
      have g18 := of_decide_eq_false h18
      refine lw_on rfl rfl h18 ?_
      first | refine lw_val rfl (run_load Tryd.underlying3 rfl rfl (hs.cellAt 0 rfl rfl)) ?_ | refine lw_val rfl (run_load Tryd.underlying3 rfl rfl (hs.cellAt 1 rfl rfl)) ?_ | refine lw_val rfl (run_load Tryd.underlying3 rfl rfl (hs.cellAt 2 rfl rfl)) ?_ | refine lw_val rfl (run_load Tryd.underlying3 rfl rfl (hs.cellAt 3 rfl rfl)) ?_ | refine lw_val rfl (run_load Tryd.underlying3 rfl rfl (hs.cellAt 4 rfl rfl)) ?_ | refine lw_val rfl (run_load Tryd.underlying3 rfl rfl (hs.cellAt 5 rfl rfl)) ?_ | refine lw_val rfl (run_load Tryd.underlying3 rfl rfl (hs.cellAt 6 rfl rfl)) ?_ | refine lw_val rfl (run_load Tryd.underlying3 rfl rfl (hs.cellAt 7 rfl rfl)) ?_ | refine lw_val rfl (run_load Tryd.underlying3 rfl rfl (hs.cellAt 8 rfl rfl)) ?_ | refine lw_val rfl (run_load Tryd.underlying3 rfl rfl (hs.cellAt 9 rfl rfl)) ?_ | refine lw_val rfl (run_load Tryd.underlying3 rfl rfl (hs.cellAt 10 rfl rfl)) ?_ | refine lw_val rfl (run_load Tryd.underlying3 rfl rfl (hs.cellAt 11 rfl rfl)) ?_ | refine lw_val rfl (run_load Tryd.underlying3 rfl rfl (hs.cellAt 12 rfl rfl)) ?_ | refine lw_val rfl (run_load Tryd.underlying3 rfl rfl (hs.cellAt 13 rfl rfl)) ?_
      refine lw_on rfl rfl h18 ?_
      refine lw_val rfl (run_geq rfl rfl) ?_
      first | refine lw_val rfl (run_pickF (v := .bool _) rfl h18 rfl) ?_
      first | refine lw_val rfl (run_assign (v := .bool _) rfl) ?_
      refine lw_nil ?_
      refine cw_if rfl ?_ ?_
      · intro h21
        have g21 := of_decide_eq_true h21
        refine cw_seq ?_
        refine cw_region ?_
        refine lw_val rfl (run_load Tryd.underlying29 rfl rfl (hE.cellW hs 105 (by decide) rfl)) ?_
        first | refine lw_val rfl (run_assign (v := errV ad _) rfl) ?_ | refine lw_val rfl (run_assign (v := .nilIface) rfl) ?_
        refine lw_nil ?_
        refine cw_ret ?_
        first | refine res1 (v := errV ad _) rfl rfl ?_ | refine res1 (v := .nilIface) rfl rfl ?_
        rw [hbad (by omega)]
        exact ⟨_, rfl, rfl, hs.closeS⟩
      · intro h21
        have g21 := of_decide_eq_false h21
        refine cw_skip ?_
        refine cw_seq ?_
        obtain ⟨ps, hs⟩ := (hs.famTake 4 rfl hu ho).openU
        simp only [List.set_cons_succ, List.set_cons_zero] at hs
        refine cw_drawS mixes (hs.drop 1) ?_
        intro w tr hK
        replace hs := tr _ hs
        clear tr
        first | refine aw_take 0 rfl (by kernel_rfl) (by kernel_rfl) (by kernel_rfl) rfl (fun w hs => run_move (v := .pointer (some _)) rfl) hK ?_ | refine aw_take 0 rfl (by kernel_rfl) (by kernel_rfl) (by kernel_rfl) rfl (fun w hs => run_move (v := .pointer none) rfl) hK ?_
        refine aw_take 1 rfl (by kernel_rfl) (by kernel_rfl) (by kernel_rfl) rfl (fun w hs => run_nilCheckP rfl) hK ?_
        first | refine aw_take 2 rfl (by kernel_rfl) (by kernel_rfl) (by kernel_rfl) rfl (fun w hs => run_fieldAddr (o' := 1) Tryd.underlying120 rfl sz118 rfl rfl rfl) hK ?_ | refine aw_take 2 rfl (by kernel_rfl) (by kernel_rfl) (by kernel_rfl) rfl (fun w hs => run_fieldAddr Tryd.underlying120 rfl sz118 rfl rfl rfl) hK ?_
        first | refine aw_take 3 rfl (by kernel_rfl) (by kernel_rfl) (by kernel_rfl) rfl (fun w hs => run_load Tryd.underlying118 rfl rfl (hs.cellAt 0 rfl rfl)) hK ?_ | refine aw_take 3 rfl (by kernel_rfl) (by kernel_rfl) (by kernel_rfl) rfl (fun w hs => run_load Tryd.underlying118 rfl rfl (hs.cellAt 1 rfl rfl)) hK ?_ | refine aw_take 3 rfl (by kernel_rfl) (by kernel_rfl) (by kernel_rfl) rfl (fun w hs => run_load Tryd.underlying118 rfl rfl (hs.cellAt 2 rfl rfl)) hK ?_ | refine aw_take 3 rfl (by kernel_rfl) (by kernel_rfl) (by kernel_rfl) rfl (fun w hs => run_load Tryd.underlying118 rfl rfl (hs.cellAt 3 rfl rfl)) hK ?_ | refine aw_take 3 rfl (by kernel_rfl) (by kernel_rfl) (by kernel_rfl) rfl (fun w hs => run_load Tryd.underlying118 rfl rfl (hs.cellAt 4 rfl rfl)) hK ?_ | refine aw_take 3 rfl (by kernel_rfl) (by kernel_rfl) (by kernel_rfl) rfl (fun w hs => run_load Tryd.underlying118 rfl rfl (hs.cellAt 5 rfl rfl)) hK ?_ | refine aw_take 3 rfl (by kernel_rfl) (by kernel_rfl) (by kernel_rfl) rfl (fun w hs => run_load Tryd.underlying118 rfl rfl (hs.cellAt 6 rfl rfl)) hK ?_ | refine aw_take 3 rfl (by kernel_rfl) (by kernel_rfl) (by kernel_rfl) rfl (fun w hs => run_load Tryd.underlying118 rfl rfl (hs.cellAt 7 rfl rfl)) hK ?_ | refine aw_take 3 rfl (by kernel_rfl) (by kernel_rfl) (by kernel_rfl) rfl (fun w hs => run_load Tryd.underlying118 rfl rfl (hs.cellAt 8 rfl rfl)) hK ?_ | refine aw_take 3 rfl (by kernel_rfl) (by kernel_rfl) (by kernel_rfl) rfl (fun w hs => run_load Tryd.underlying118 rfl rfl (hs.cellAt 9 rfl rfl)) hK ?_ | refine aw_take 3 rfl (by kernel_rfl) (by kernel_rfl) (by kernel_rfl) rfl (fun w hs => run_load Tryd.underlying118 rfl rfl (hs.cellAt 10 rfl rfl)) hK ?_ | refine aw_take 3 rfl (by kernel_rfl) (by kernel_rfl) (by kernel_rfl) rfl (fun w hs => run_load Tryd.underlying118 rfl rfl (hs.cellAt 11 rfl rfl)) hK ?_ | refine aw_take 3 rfl (by kernel_rfl) (by kernel_rfl) (by kernel_rfl) rfl (fun w hs => run_load Tryd.underlying118 rfl rfl (hs.cellAt 12 rfl rfl)) hK ?_ | refine aw_take 3 rfl (by kernel_rfl) (by kernel_rfl) (by kernel_rfl) rfl (fun w hs => run_load Tryd.underlying118 rfl rfl (hs.cellAt 13 rfl rfl)) hK ?_
        first | refine aw_take 4 rfl (by kernel_rfl) (by kernel_rfl) (by kernel_rfl) rfl (fun w hs => run_load Tryd.underlying3 rfl rfl (hs.cellAt 0 rfl rfl)) hK ?_ | refine aw_take 4 rfl (by kernel_rfl) (by kernel_rfl) (by kernel_rfl) rfl (fun w hs => run_load Tryd.underlying3 rfl rfl (hs.cellAt 1 rfl rfl)) hK ?_ | refine aw_take 4 rfl (by kernel_rfl) (by kernel_rfl) (by kernel_rfl) rfl (fun w hs => run_load Tryd.underlying3 rfl rfl (hs.cellAt 2 rfl rfl)) hK ?_ | refine aw_take 4 rfl (by kernel_rfl) (by kernel_rfl) (by kernel_rfl) rfl (fun w hs => run_load Tryd.underlying3 rfl rfl (hs.cellAt 3 rfl rfl)) hK ?_ | refine aw_take 4 rfl (by kernel_rfl) (by kernel_rfl) (by kernel_rfl) rfl (fun w hs => run_load Tryd.underlying3 rfl rfl (hs.cellAt 4 rfl rfl)) hK ?_ | refine aw_take 4 rfl (by kernel_rfl) (by kernel_rfl) (by kernel_rfl) rfl (fun w hs => run_load Tryd.underlying3 rfl rfl (hs.cellAt 5 rfl rfl)) hK ?_ | refine aw_take 4 rfl (by kernel_rfl) (by kernel_rfl) (by kernel_rfl) rfl (fun w hs => run_load Tryd.underlying3 rfl rfl (hs.cellAt 6 rfl rfl)) hK ?_ | refine aw_take 4 rfl (by kernel_rfl) (by kernel_rfl) (by kernel_rfl) rfl (fun w hs => run_load Tryd.underlying3 rfl rfl (hs.cellAt 7 rfl rfl)) hK ?_ | refine aw_take 4 rfl (by kernel_rfl) (by kernel_rfl) (by kernel_rfl) rfl (fun w hs => run_load Tryd.underlying3 rfl rfl (hs.cellAt 8 rfl rfl)) hK ?_ | refine aw_take 4 rfl (by kernel_rfl) (by kernel_rfl) (by kernel_rfl) rfl (fun w hs => run_load Tryd.underlying3 rfl rfl (hs.cellAt 9 rfl rfl)) hK ?_ | refine aw_take 4 rfl (by kernel_rfl) (by kernel_rfl) (by kernel_rfl) rfl (fun w hs => run_load Tryd.underlying3 rfl rfl (hs.cellAt 10 rfl rfl)) hK ?_ | refine aw_take 4 rfl (by kernel_rfl) (by kernel_rfl) (by kernel_rfl) rfl (fun w hs => run_load Tryd.underlying3 rfl rfl (hs.cellAt 11 rfl rfl)) hK ?_ | refine aw_take 4 rfl (by kernel_rfl) (by kernel_rfl) (by kernel_rfl) rfl (fun w hs => run_load Tryd.underlying3 rfl rfl (hs.cellAt 12 rfl rfl)) hK ?_ | refine aw_take 4 rfl (by kernel_rfl) (by kernel_rfl) (by kernel_rfl) rfl (fun w hs => run_load Tryd.underlying3 rfl rfl (hs.cellAt 13 rfl rfl)) hK ?_
        first | refine aw_take 5 rfl (by kernel_rfl) (by kernel_rfl) (by kernel_rfl) rfl (fun w hs => run_load Tryd.underlying27 rfl rfl (hs.cellAt 0 rfl rfl)) hK ?_ | refine aw_take 5 rfl (by kernel_rfl) (by kernel_rfl) (by kernel_rfl) rfl (fun w hs => run_load Tryd.underlying27 rfl rfl (hs.cellAt 1 rfl rfl)) hK ?_ | refine aw_take 5 rfl (by kernel_rfl) (by kernel_rfl) (by kernel_rfl) rfl (fun w hs => run_load Tryd.underlying27 rfl rfl (hs.cellAt 2 rfl rfl)) hK ?_ | refine aw_take 5 rfl (by kernel_rfl) (by kernel_rfl) (by kernel_rfl) rfl (fun w hs => run_load Tryd.underlying27 rfl rfl (hs.cellAt 3 rfl rfl)) hK ?_ | refine aw_take 5 rfl (by kernel_rfl) (by kernel_rfl) (by kernel_rfl) rfl (fun w hs => run_load Tryd.underlying27 rfl rfl (hs.cellAt 4 rfl rfl)) hK ?_ | refine aw_take 5 rfl (by kernel_rfl) (by kernel_rfl) (by kernel_rfl) rfl (fun w hs => run_load Tryd.underlying27 rfl rfl (hs.cellAt 5 rfl rfl)) hK ?_ | refine aw_take 5 rfl (by kernel_rfl) (by kernel_rfl) (by kernel_rfl) rfl (fun w hs => run_load Tryd.underlying27 rfl rfl (hs.cellAt 6 rfl rfl)) hK ?_ | refine aw_take 5 rfl (by kernel_rfl) (by kernel_rfl) (by kernel_rfl) rfl (fun w hs => run_load Tryd.underlying27 rfl rfl (hs.cellAt 7 rfl rfl)) hK ?_ | refine aw_take 5 rfl (by kernel_rfl) (by kernel_rfl) (by kernel_rfl) rfl (fun w hs => run_load Tryd.underlying27 rfl rfl (hs.cellAt 8 rfl rfl)) hK ?_ | refine aw_take 5 rfl (by kernel_rfl) (by kernel_rfl) (by kernel_rfl) rfl (fun w hs => run_load Tryd.underlying27 rfl rfl (hs.cellAt 9 rfl rfl)) hK ?_ | refine aw_take 5 rfl (by kernel_rfl) (by kernel_rfl) (by kernel_rfl) rfl (fun w hs => run_load Tryd.underlying27 rfl rfl (hs.cellAt 10 rfl rfl)) hK ?_ | refine aw_take 5 rfl (by kernel_rfl) (by kernel_rfl) (by kernel_rfl) rfl (fun w hs => run_load Tryd.underlying27 rfl rfl (hs.cellAt 11 rfl rfl)) hK ?_ | refine aw_take 5 rfl (by kernel_rfl) (by kernel_rfl) (by kernel_rfl) rfl (fun w hs => run_load Tryd.underlying27 rfl rfl (hs.cellAt 12 rfl rfl)) hK ?_ | refine aw_take 5 rfl (by kernel_rfl) (by kernel_rfl) (by kernel_rfl) rfl (fun w hs => run_load Tryd.underlying27 rfl rfl (hs.cellAt 13 rfl rfl)) hK ?_
        refine aw_ready [6] (by kernel_rfl) (by simp) ?_
        refine ⟨⟨_, rfl, ?_⟩, trivial⟩
        refine lw_call rfl en69 (clone0_sl hs (l := b) (hr.seq hs) hlen) ?_
        clear hs
        rintro _ w ⟨a30, c30, rfl, hs⟩
        clear hK
        have hK := hs.tail.drop 1
        refine lw_nil ⟨hK, ?_⟩
        refine aw_ready [7] (by kernel_rfl) (by simp) ?_
        refine ⟨⟨_, rfl, ?_⟩, trivial⟩
        first | refine lw_mapUpdate (v := .slice _ _ _) hs 0 rfl intKind Tryd.underlying118 Tryd.underlying3 rfl rfl rfl ?_ | refine lw_mapUpdate (v := .slice _ _ _) hs 1 rfl intKind Tryd.underlying118 Tryd.underlying3 rfl rfl rfl ?_ | refine lw_mapUpdate (v := .slice _ _ _) hs 2 rfl intKind Tryd.underlying118 Tryd.underlying3 rfl rfl rfl ?_ | refine lw_mapUpdate (v := .slice _ _ _) hs 3 rfl intKind Tryd.underlying118 Tryd.underlying3 rfl rfl rfl ?_ | refine lw_mapUpdate (v := .slice _ _ _) hs 4 rfl intKind Tryd.underlying118 Tryd.underlying3 rfl rfl rfl ?_ | refine lw_mapUpdate (v := .slice _ _ _) hs 5 rfl intKind Tryd.underlying118 Tryd.underlying3 rfl rfl rfl ?_ | refine lw_mapUpdate (v := .slice _ _ _) hs 6 rfl intKind Tryd.underlying118 Tryd.underlying3 rfl rfl rfl ?_ | refine lw_mapUpdate (v := .slice _ _ _) hs 7 rfl intKind Tryd.underlying118 Tryd.underlying3 rfl rfl rfl ?_ | refine lw_mapUpdate (v := .slice _ _ _) hs 8 rfl intKind Tryd.underlying118 Tryd.underlying3 rfl rfl rfl ?_ | refine lw_mapUpdate (v := .slice _ _ _) hs 9 rfl intKind Tryd.underlying118 Tryd.underlying3 rfl rfl rfl ?_ | refine lw_mapUpdate (v := .slice _ _ _) hs 10 rfl intKind Tryd.underlying118 Tryd.underlying3 rfl rfl rfl ?_ | refine lw_mapUpdate (v := .slice _ _ _) hs 11 rfl intKind Tryd.underlying118 Tryd.underlying3 rfl rfl rfl ?_ | refine lw_mapUpdate (v := .slice _ _ _) hs 12 rfl intKind Tryd.underlying118 Tryd.underlying3 rfl rfl rfl ?_ | refine lw_mapUpdate (v := .slice _ _ _) hs 13 rfl intKind Tryd.underlying118 Tryd.underlying3 rfl rfl rfl ?_
        clear hs
        intro w hs
        try simp only [List.set_cons_succ, List.set_cons_zero] at hs
        clear hK
        have hK := hs.tail.drop 1
        refine lw_nil ⟨hK, ?_⟩
        refine aw_done (by kernel_rfl) ?_
        clear hK
        refine cw_seq ?_
        refine cw_region ?_
        first | refine lw_val rfl (run_assign (v := errV ad _) rfl) ?_ | refine lw_val rfl (run_assign (v := .nilIface) rfl) ?_
        refine lw_nil ?_
        refine cw_ret ?_
        first | refine res1 (v := errV ad _) rfl rfl ?_ | refine res1 (v := .nilIface) rfl rfl ?_
        have hp : st.part1 id k b = (0, { st with ups := aput st.ups id { u with parts := aput u.parts k b } }) := by simp only [St.part1, ho]; rw [if_neg (by omega)]
        rw [hp]
        have h1 := Mem.famPut (R := rdB) (k := k) (b := b) (hs.ownRd 0 rfl) 2 rfl (fun _ h => False.elim h)
        have h2 := Mem.closeU (u := { u with parts := aput u.parts k b }) h1
        have h3 := Mem.famPut (R := upC) (k := id) h2 4 rfl (fun _ h => h)
        rw [aput_same hu] at h3
        exact ⟨_, rfl, (errV_zero ad).symm, Mem.closeS (st := { st with ups := aput st.ups id { u with parts := aput u.parts k b } }) (mo := mo) (mu := mu) (sv := .slice sa sn sc) (es := es) (us := us) h3⟩
theorem part0_sl (hE : ErrG ad g) (hs : Mem g w (StoreC p st :: M)) (hcl : st.calls < 4611686018427387904) (hfl : st.failed < 4611686018427387904) {id k : Int} {b : List UInt8} {a : Option Addr} {m c : Nat} (hr : Came0 g (.slice a m c) (bytesL b)) (hlen : b.length ≤ 1073741824) {x : Nat} {st2 : St} (hk : st.run (St.part1 id k b) = (x, st2)) :
    Calls Tryd.prog 56 #[.pointer (some ⟨p, 0, none⟩), .int .i64 id, .int .i64 k, .slice a m c] w (Ret fun v w' => v = errV ad x ∧ Mem g w' (StoreC p st2 :: M)) := by
  have k1 : (st.run (St.part1 id k b)).1 = x := by rw [hk]
  have k2 : (st.run (St.part1 id k b)).2 = st2 := by rw [hk]
  subst k1 k2
  refine calls_cw Tryd.func56 rfl rfl ?_
  skip
  refine cw_seq ?_
  refine cw_region ?_
  first | refine lw_box (v := .pointer (some _)) hs rfl rfl ?_ | refine lw_box (v := .pointer none) hs rfl rfl ?_
  clear hs
  intro b4 w hs
  try simp only [List.set_cons_succ, List.set_cons_zero] at hs
  first | refine lw_box (v := .int .i64 _) hs rfl rfl ?_
  clear hs
  intro b5 w hs
  try simp only [List.set_cons_succ, List.set_cons_zero] at hs
  first | refine lw_box (v := .int .i64 _) hs rfl rfl ?_
  clear hs
  intro b6 w hs
  try simp only [List.set_cons_succ, List.set_cons_zero] at hs
  first | refine lw_box (v := .slice _ _ _) hs rfl rfl ?_
  clear hs
  intro b7 w hs
  try simp only [List.set_cons_succ, List.set_cons_zero] at hs
  first | refine lw_val rfl (run_assign (v := errV ad _) rfl) ?_ | refine lw_val rfl (run_assign (v := .nilIface) rfl) ?_
  refine lw_nil ?_
  refine cw_seq ?_
  replace hs := hs.pick 4 rfl
  simp only [List.eraseIdx_cons_succ, List.eraseIdx_cons_zero] at hs
  refine cw_region ?_
  first | refine lw_val rfl (run_load Tryd.underlying24 rfl rfl (hs.cellAt 0 rfl rfl)) ?_ | refine lw_val rfl (run_load Tryd.underlying24 rfl rfl (hs.cellAt 1 rfl rfl)) ?_ | refine lw_val rfl (run_load Tryd.underlying24 rfl rfl (hs.cellAt 2 rfl rfl)) ?_ | refine lw_val rfl (run_load Tryd.underlying24 rfl rfl (hs.cellAt 3 rfl rfl)) ?_ | refine lw_val rfl (run_load Tryd.underlying24 rfl rfl (hs.cellAt 4 rfl rfl)) ?_ | refine lw_val rfl (run_load Tryd.underlying24 rfl rfl (hs.cellAt 5 rfl rfl)) ?_ | refine lw_val rfl (run_load Tryd.underlying24 rfl rfl (hs.cellAt 6 rfl rfl)) ?_ | refine lw_val rfl (run_load Tryd.underlying24 rfl rfl (hs.cellAt 7 rfl rfl)) ?_ | refine lw_val rfl (run_load Tryd.underlying24 rfl rfl (hs.cellAt 8 rfl rfl)) ?_ | refine lw_val rfl (run_load Tryd.underlying24 rfl rfl (hs.cellAt 9 rfl rfl)) ?_ | refine lw_val rfl (run_load Tryd.underlying24 rfl rfl (hs.cellAt 10 rfl rfl)) ?_ | refine lw_val rfl (run_load Tryd.underlying24 rfl rfl (hs.cellAt 11 rfl rfl)) ?_ | refine lw_val rfl (run_load Tryd.underlying24 rfl rfl (hs.cellAt 12 rfl rfl)) ?_ | refine lw_val rfl (run_load Tryd.underlying24 rfl rfl (hs.cellAt 13 rfl rfl)) ?_
  refine lw_val rfl (run_makeFunc) ?_
  refine lw_call rfl en66 (call_err (cap := #[.pointer (some ⟨b4, 0, none⟩), .pointer (some ⟨b5, 0, none⟩), .pointer (some ⟨b6, 0, none⟩), .pointer (some ⟨b7, 0, none⟩)]) hE hs hcl hfl (St.part1 id k b) en96 (fun w1 h1 => partC0_sl hE h1 hr hlen)) ?_
  clear hs
  rintro _ w ⟨rfl, hs⟩
  first | refine lw_val rfl (run_assign (v := errV ad _) rfl) ?_ | refine lw_val rfl (run_assign (v := .nilIface) rfl) ?_
  refine lw_nil ?_
  refine cw_ret ?_
  first | refine res1 (v := errV ad _) rfl rfl ?_ | refine res1 (v := .nilIface) rfl rfl ?_
  exact ⟨_, rfl, rfl, hs.arr [0] 5 (by decide)⟩

/-! ### slices of slices of bytes -/
/-- An element: where it lies, its room, its bytes. -/
abbrev El := Option Addr × Nat × List UInt8
def elV (x : El) : Value := .slice x.1 x.2.2.length x.2.1
structure Rows2 (g : World) (v : Value) (z : List El) : Prop where
  came : Came g v (z.map elV)
  each : ∀ x ∈ z, Came0 g (elV x) (bytesL x.2.2)
theorem elV_at {z : List El} {k : Nat} {x : El} (h : z[k]? = some x) : (z.map elV)[k]? = some (.slice x.1 x.2.2.length x.2.1) := by simp [h, elV]
theorem worldBytes_sl (hs : Mem g w L) {a : Option Addr} {n c : Nat} {z : List El} {most long : Int} (hz : Rows2 g (.slice a n c) z) (hn : n = z.length) (hmost : most ≤ 1000000000) :
    Calls Tryd.prog 60 #[.slice a n c, .int .i64 most, .int .i64 long] w (Ret fun v w' => ∃ b, (b = true → (z.length : Int) ≤ most ∧ ∀ x ∈ z, (x.2.2.length : Int) ≤ long) ∧ v = .bool b ∧ Mem g w' L) := by
  subst hn
  refine calls_cw Tryd.func60 rfl rfl ?_
  skip
  refine cw_seq ?_
  refine cw_region ?_
  first | refine lw_val rfl (run_assign (v := .bool _) rfl) ?_
  refine lw_nil ?_
  refine cw_seq ?_
  refine cw_seq ?_
  refine cw_region ?_
  first | refine lw_val rfl (run_move (v := .slice _ _ _) rfl) ?_
  refine lw_val rfl (run_lenS Tryd.underlying83 rfl) ?_
  first | refine lw_val rfl (run_move (v := .int .i64 _) rfl) ?_
  refine lw_val rfl (run_gtr rfl rfl) ?_
  refine lw_nil ?_
  refine cw_if rfl ?_ ?_
  · intro h11
    have g11 := of_decide_eq_true h11
    refine cw_seq ?_
    refine cw_region ?_
    first | refine lw_val rfl (run_assign (v := .bool _) rfl) ?_
    refine lw_nil ?_
    refine cw_ret ?_
    refine res1 (v := .bool _) rfl rfl ?_
    exact ⟨_, rfl, false, (fun h => by cases h), rfl, hs⟩
  · intro h11
    have g11 := of_decide_eq_false h11
    refine cw_skip ?_
    refine cw_seq ?_
    refine cw_seq ?_
    refine cw_region ?_
    first | refine lw_val rfl (run_assign (v := .int .i64 _) rfl) ?_
    refine lw_nil ?_
    refine cw_block ?_
    refine cw_loop (X := Nat) [6, 7, 12, 13, 14, 15, 16, 17, 18, 19, 20, 21, 22, 23, 24] (fun k => [(7, .int .i64 (k : Nat))]) (fun k w => k ≤ z.length ∧ (∀ x ∈ z.take k, (x.2.2.length : Int) ≤ long) ∧ Mem g w L) (fun k => z.length - k) (0) ?_ ?_ ?_
    · exact ⟨rfl, trivial⟩
    · exact ⟨Nat.zero_le _, fun _ h => by simp at h, hs⟩
    clear hs
    rintro x ξ w hI
    obtain ⟨hk, hq, hs⟩ := hI
    refine cw_seq ?_
    refine cw_seq ?_
    refine cw_region ?_
    first | refine lw_val rfl (run_move (v := .int .i64 _) rfl) ?_
    first | refine lw_val rfl (run_move (v := .slice _ _ _) rfl) ?_
    refine lw_val rfl (run_lenS Tryd.underlying83 rfl) ?_
    refine lw_val rfl (run_lss rfl rfl) ?_
    refine lw_nil ?_
    refine cw_if rfl ?_ ?_
    · intro h15
      have g15 := of_decide_eq_true h15
      obtain ⟨xa, hxa⟩ : ∃ xa, z[x]? = some xa := ⟨z[x]'(by omega), List.getElem?_eq_getElem _⟩
      obtain ⟨b1, o1, rfl, _⟩ := (hz.came.rd _).cells' hs (by simp; omega)
      refine cw_skip ?_
      refine cw_seq ?_
      refine cw_block ?_
      refine cw_seq ?_
      refine cw_region ?_
      first | refine lw_val rfl (run_move (v := .slice _ _ _) rfl) ?_
      first | refine lw_val rfl (run_move (v := .int .i64 _) rfl) ?_
      refine lw_val rfl (run_indexAddr Tryd.underlying83 sz27 rfl rfl rfl (by omega) rfl) ?_
      refine lw_val rfl (run_load Tryd.underlying27 rfl rfl ((hz.came.rd _).cellAt hs (elV_at hxa))) ?_
      refine lw_val rfl (run_lenS Tryd.underlying27 rfl) ?_
      first | refine lw_val rfl (run_move (v := .int .i64 _) rfl) ?_
      refine lw_val rfl (run_gtr rfl rfl) ?_
      refine lw_nil ?_
      refine cw_if rfl ?_ ?_
      · intro h24
        have g24 := of_decide_eq_true h24
        refine cw_seq ?_
        refine cw_region ?_
        first | refine lw_val rfl (run_assign (v := .bool _) rfl) ?_
        refine lw_nil ?_
        refine cw_ret ?_
        refine res1 (v := .bool _) rfl rfl ?_
        exact ⟨_, rfl, false, (fun h => by cases h), rfl, hs⟩
      · intro h24
        have g24 := of_decide_eq_false h24
        refine cw_skip ?_
        refine cw_region ?_
        first | refine lw_val rfl (run_move (v := .int .i64 _) rfl) ?_
        refine lw_val rfl (run_add64 rfl rfl rfl (inI (by omega) (by omega))) ?_
        first | refine lw_val rfl (run_assign (v := .int .i64 _) rfl) ?_
        refine lw_nil ?_
        exact ⟨x + 1, by omega, ⟨by omega, fun y hy => by rw [List.take_add_one, hxa] at hy; simp only [Option.toList, List.mem_append, List.mem_cons, List.not_mem_nil, or_false] at hy; rcases hy with hy | rfl; exact hq y hy; omega, hs⟩, ⟨rfl, trivial⟩, by repeat (first | exact Out.mix _ _ _ | refine Out.updo rfl ?_ | refine Out.upd rfl ?_ | refine Out.mixIn rfl ?_)⟩
    · intro h15
      have g15 := of_decide_eq_false h15
      refine cw_exit rfl ?_
      refine cw_seq ?_
      refine cw_region ?_
      first | refine lw_val rfl (run_assign (v := .bool _) rfl) ?_
      refine lw_nil ?_
      refine cw_ret ?_
      refine res1 (v := .bool _) rfl rfl ?_
      have e : x = z.length := by omega
      rw [e, List.take_length] at hq
      exact ⟨_, rfl, true, fun _ => ⟨by omega, hq⟩, rfl, hs⟩
/-- As the row's reader tells them. -/
def RowsW (w : World) (v : Value) (z : List El) : Prop := seqV w v (z.map elV) ∧ ∀ x ∈ z, Came0 w (elV x) (bytesL x.2.2)
theorem RowsW.rows {a : Option Addr} {n c : Nat} {z : List El} (h : RowsW w (.slice a n c) z) (hb : ∀ b, blk (.slice a n c) = some b → b < w.heap.size) : Rows2 w (.slice a n c) z ∧ n = z.length := ⟨⟨⟨h.1, hb⟩, h.2⟩, by have := h.1.len; simpa using this.symm⟩
theorem rows_of_cells {W : World} {base : Nat} {x : Addr} {l c : Nat} {A : Nat → Option Addr} {L C : Nat → Nat} {Z : Nat → List Int} (hl : l ≤ c)
    (h : ∀ r, r < c → W.cell? (x.add r) = some (.slice (A r) (L r) (C r)) ∧ L r ≤ C r ∧ C r ≤ maxLen ∧ (Z r).length = C r ∧ (∀ n ∈ Z r, (Lit.int .u8 n).wf = true) ∧ (A r = none → C r = 0) ∧ ∀ a', A r = some a' → base ≤ a'.block ∧ ∀ i, i < C r → W.cell? (a'.add i) = some (.int .u8 ((Z r).getD i 0))) :
    ∃ z : List El, RowsW W (.slice (some x) l c) z := by
  let el : Nat → El := fun r => (A r, C r, ((Z r).take (L r)).map fun z => UInt8.ofNat z.toNat)
  have hel : ∀ r, r < c → elV (el r) = .slice (A r) (L r) (C r) := fun r hr => by
    obtain ⟨_, h1, _, h2, _⟩ := h r hr
    show Value.slice (A r) (((Z r).take (L r)).map fun z => UInt8.ofNat z.toNat).length (C r) = _
    rw [List.length_map, List.length_take, h2, Nat.min_eq_left h1]
  refine ⟨(List.range l).map el, ?_, fun y hy => ?_⟩
  · have := seq_of_cells (W := W) (x := x) (f := fun i => elV (el i)) hl (fun i hi => by rw [hel i hi]; exact (h i hi).1)
    simpa [List.map_map, Function.comp_def] using this
  · obtain ⟨r, hr, rfl⟩ := List.mem_map.1 hy
    have hrl : r < l := by simpa using hr
    obtain ⟨e1, e2, e3, e4, e5, e6, e7⟩ := h r (by omega)
    rw [hel r (by omega)]
    intro W' hW
    have hlen : (((Z r).take (L r)).map fun z => UInt8.ofNat z.toNat).length = L r := by rw [List.length_map, List.length_take, e4, Nat.min_eq_left e2]
    rcases Nat.eq_zero_or_pos (C r) with h0 | h0
    · have hz : ((Z r).take (L r)).map (fun z => UInt8.ofNat z.toNat) = [] := List.eq_nil_of_length_eq_zero (by rw [hlen]; omega)
      show seqV W' _ (bytesL (((Z r).take (L r)).map fun z => UInt8.ofNat z.toNat))
      rw [hz, show L r = 0 by omega, h0]
      exact ⟨_, 0, 0, rfl, rfl, Nat.le_refl _, fun _ => rfl, .inl rfl⟩
    · cases ha : A r with
      | none => rw [e6 ha] at h0; omega
      | some a' =>
        obtain ⟨_, e8⟩ := e7 a' ha
        have hi : IsRow .u8 W (some a') (L r) (C r) (Z r) := .inr ⟨a', rfl, e2, e3, e4, fun i hi => e8 i (by omega), e5⟩
        refine hi.bytes.heap fun b hb => hW b ?_
        simp only [blk, Option.some.injEq] at hb
        subst hb
        have hc := e8 0 h0
        have := World.block_lt_of_cell? W _ hc
        have hbk : (a'.add 0).block = a'.block := by unfold Addr.add; split <;> rfl
        rwa [hbk] at this
end Go.Proofs.YtjiigajekminaaaDoor
