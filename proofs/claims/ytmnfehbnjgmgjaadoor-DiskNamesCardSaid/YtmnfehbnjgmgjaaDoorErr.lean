/- The errors: the sentinels in memory; what cordwoodsee says of them. -/
import Derived.Test.YtmnfehbnjgmgjaaDoorClone
import Derived.LaidEql
import Derived.Deep.RegionHeld3
import Derived.Deep.RegionWith
namespace Go.Proofs.YtmnfehbnjgmgjaaDoor
set_option linter.all false
open Go.RowKit

/-- The sentinel of a code lies in this package-level variable. -/
def gidx : Nat → Nat
  | 101 => 7
  | 102 => 8
  | 103 => 9
  | 104 => 0
  | 105 => 1
  | 106 => 2
  | 107 => 3
  | 108 => 5
  | 109 => 6
  | 110 => 4
  | 111 => 10
  | 112 => 11
  | 113 => 12
  | 114 => 13
  | 115 => 14
  | 116 => 15
  | 117 => 16
  | 118 => 17
  | _ => 18
/-- The error of a code (0: none), as a value. -/
def errV (ad : Nat → Addr) (c : Nat) : Value := if c = 0 then .nilIface else .iface 192 (.pointer (some (ad c)))
theorem errV_zero (ad : Nat → Addr) : errV ad 0 = .nilIface := rfl
theorem errV_pos (ad : Nat → Addr) {c : Nat} (h : c ≠ 0) : errV ad c = .iface 192 (.pointer (some (ad c))) := by simp [errV, h]

/-- The sentinels of these codes lie in memory, all below block B. -/
structure Errs (L : List Nat) (ad : Nat → Addr) (B : Nat) (w : World) : Prop where
  pos : ∀ c ∈ L, c ≠ 0
  cell : ∀ c ∈ L, w.cell? ⟨gidx c, 0, none⟩ = some (errV ad c)
  block : ∀ c ∈ L, ∃ cs E, w.heap[(ad c).block]? = some (.cells cs E (0, 0))
  inj : ∀ c ∈ L, ∀ d ∈ L, ad c = ad d → c = d
  lt : ∀ c ∈ L, gidx c < B ∧ (ad c).block < B
theorem Errs.below {L : List Nat} {ad : Nat → Addr} {B : Nat} {w w' : World} (h : Errs L ad B w) (k : Below B w w') : Errs L ad B w' where
  pos := h.pos
  cell c hc := (k.cell (p := ⟨gidx c, 0, none⟩) (h.lt c hc).1).trans (h.cell c hc)
  block c hc := by obtain ⟨cs, E, hb⟩ := h.block c hc; exact ⟨cs, E, (k.block _ (h.lt c hc).2).trans hb⟩
  inj := h.inj
  lt := h.lt

theorem Errs.mono {L : List Nat} {ad : Nat → Addr} {B B' : Nat} {w : World} (h : Errs L ad B w) (hB : B ≤ B') : Errs L ad B' w :=
  ⟨h.pos, h.cell, h.block, h.inj, fun c hc => ⟨Nat.lt_of_lt_of_le (h.lt c hc).1 hB, Nat.lt_of_lt_of_le (h.lt c hc).2 hB⟩⟩
theorem Errs.keep {L : List Nat} {ad : Nat → Addr} {B : Nat} {F : Nat → Prop} {w w' : World} (h : Errs L ad B w) (k : Keeps F w w') (hB : B ≤ w.heap.size) (hF : ∀ i, i < B → ¬ F i) : Errs L ad B w' := h.below (k.below hB hF)

theorem comp_err : (Tryd.prog.info? 192).map (·.comparable) = some true := by kernel_rfl
theorem size_err : (Tryd.prog.info? 208).map (·.size) = some 1 := by kernel_rfl
theorem info_err : (Tryd.prog.info? 30).map (fun i => (i.zero, i.size, i.bytes)) = some (some .nilIface, 1, 16) := by kernel_rfl

/-- '==' between two sentinels. -/
theorem run_eql_errs {L : List Nat} {ad : Nat → Addr} {B : Nat} {w : World} (h : Errs L ad B w) {c d : Nat} (hc : c ∈ L) (hd : d ∈ L) :
    (binOp .eql 30 (.iface 192 (.pointer (some (ad c)))) (.iface 192 (.pointer (some (ad d))))).run Tryd.prog w = .ok (.bool (c == d)) w := by
  obtain ⟨i, hi, hcomp⟩ := Option.map_eq_some_iff.1 comp_err
  obtain ⟨j, hj, hsz⟩ := Option.map_eq_some_iff.1 size_err
  by_cases e : c = d
  · subst e
    rw [run_eql_iface_ptr_same w (ad c) Tryd.underlying30 Tryd.underlying192 hi hcomp hj]
    simp
  · obtain ⟨ca, ta, ha⟩ := h.block c hc
    obtain ⟨cb, tb, hb⟩ := h.block d hd
    rw [run_eql_iface_ptr_other w Tryd.underlying30 Tryd.underlying192 hi hcomp hj (by omega) (fun q => e (h.inj c hc d hd q)) ha hb]
    simp [e]

theorem alike_any {L : List Nat} {ad : Nat → Addr} {B : Nat} {w : World} (h : Errs L ad B w) {c d : Nat} (hc : c ∈ L) (hd : d ∈ L) :
    Calls Tryd.prog 115 #[.iface 192 (.pointer (some (ad c))), .iface 192 (.pointer (some (ad d)))] w fun e w' => e = .returned (.bool (c == d)) ∧ w = w' := by
  have hr := run_eql_errs h hc hd
  clear h
  go_enter Tryd.func115, Tryd.ntmps115
  go_wp2
  go_ret
  exact ⟨rfl, rfl⟩

/-- All that cordwoodsee knows. -/
def allCodes : List Nat := [101, 102, 103, 104, 105, 106, 107, 108, 109, 110, 111, 112, 113, 114, 115, 116, 117, 118, 119]

def SentPost (ad : Nat → Addr) (w : World) (e : Ending) (w' : World) : Prop :=
  e = .returned (.slice (some ⟨w.heap.size, 0, none⟩) 19 19) ∧ w' = w.alloc (.cells (allCodes.map (errV ad)).toArray 30)
theorem sentinels_any {ad : Nat → Addr} {B : Nat} {w : World} (h : Errs allCodes ad B w) :
    Calls Tryd.prog 114 #[] w (SentPost ad w) := by
  have e1 := h.cell 101 (by decide)
  have e2 := h.cell 102 (by decide)
  have e3 := h.cell 103 (by decide)
  have e4 := h.cell 104 (by decide)
  have e5 := h.cell 105 (by decide)
  have e6 := h.cell 106 (by decide)
  have e7 := h.cell 107 (by decide)
  have e8 := h.cell 108 (by decide)
  have e9 := h.cell 109 (by decide)
  have e10 := h.cell 110 (by decide)
  have e11 := h.cell 111 (by decide)
  have e12 := h.cell 112 (by decide)
  have e13 := h.cell 113 (by decide)
  have e14 := h.cell 114 (by decide)
  have e15 := h.cell 115 (by decide)
  have e16 := h.cell 116 (by decide)
  have e17 := h.cell 117 (by decide)
  have e18 := h.cell 118 (by decide)
  have e19 := h.cell 119 (by decide)
  simp only [gidx] at e1 e2 e3 e4 e5 e6 e7 e8 e9 e10 e11 e12 e13 e14 e15 e16 e17 e18 e19
  clear h
  obtain ⟨i0, hi, hz0, hz1, hz2⟩ := info_parts info_err
  go_enter Tryd.func114, Tryd.ntmps114
  go_wp2_with (refine wpList_buildSeq rfl _ _ _ rfl Tryd.underlying157 hi hz0 hz1 (allCodes.map (errV ad)) rfl ?_ rfl (by decide) (by decide) ?_)
  · intro u hu
    obtain ⟨c, _, rfl⟩ := List.mem_map.1 hu
    unfold errV; split <;> rfl
  go_wp2
  go_ret
  exact ⟨rfl, rfl⟩
end Go.Proofs.YtmnfehbnjgmgjaaDoor
