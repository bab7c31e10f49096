/- slices.Clone at []byte and []int. -/
import Derived.Test.YtmnfehbnjgmgjaaDoorLeaf
namespace Go.Proofs.YtmnfehbnjgmgjaaDoor
set_option linter.all false
open Go.RowKit
theorem info_u8 : (Tryd.prog.info? 5).map (fun i => (i.zero, i.size, i.bytes)) = some (some (.int .u8 0), 1, 1) := by kernel_rfl
theorem info_int : (Tryd.prog.info? 3).map (fun i => (i.zero, i.size, i.bytes)) = some (some (.int .i64 0), 1, 8) := by kernel_rfl
/-- What has been made is new, and reads so. -/
def NewSeq (w : World) (l : List Value) (e : Ending) (w' : World) : Prop :=
  ∃ v', e = .returned v' ∧ ownV w' v' l ∧ Below w.heap.size w w' ∧ ∀ b, blk v' = some b → w.heap.size ≤ b ∧ b < w'.heap.size
/-- Behind an append onto an empty slice over a block of its own that has just been laid. -/
theorem newSeq_of_append {w w' : World} {o : Obj} {v' : Value} {l : List Value} (hv' : ownV w' v' l) (hk : Keeps (fun k => blk (.slice (some ⟨w.heap.size, 0, none⟩) 0 0) = some k) (w.alloc o) w')
    (hb : v' = .slice (some ⟨w.heap.size, 0, none⟩) 0 0 ∧ l = [] ∧ w' = w.alloc o ∨ blk v' = blk (.slice (some ⟨w.heap.size, 0, none⟩) 0 0) ∧ (blk (.slice (some ⟨w.heap.size, 0, none⟩) 0 0)).isSome ∨ blk v' = some (w.heap.size + 1)) :
    NewSeq w l (.returned v') w' := by
  refine ⟨v', rfl, hv', (((Keeps.refl (fun _ => False) w).alloc o).trans' hk fun i hi hi' => ?_).below (Nat.le_refl _) (fun _ _ h => h), fun b h => ⟨?_, hv'.lt b h⟩⟩
  · simp only [blk, Option.some.injEq] at hi'
    omega
  · rcases hb with ⟨rfl, _, _⟩ | ⟨h2, _⟩ | h2
    · simp only [blk, Option.some.injEq] at h; omega
    · rw [h2] at h; simp only [blk, Option.some.injEq] at h; omega
    · rw [h2] at h; simp only [Option.some.injEq] at h; omega

theorem clone_bytes (v : Value) (l : List Value) (w : World) (h : seqV w v l) (h1 : ∀ u ∈ l, u.oneCell' = true) (hl : l.length ≤ 1073741824) :
    Calls Tryd.prog 84 #[v] w (NewSeq w l) := by
  have hsrc := fun (w' : World) (h' : seqV w' v l) => src_of_seq (P := Tryd.prog) Tryd.underlying23 h' h1
  obtain ⟨a, n, c, rfl, hn, hc, ha, hh⟩ := id h
  obtain ⟨i0, hi, hz0, hz1, hz2⟩ := info_parts info_u8
  cases a with
  | none =>
    have hc0 := ha rfl
    subst hc0
    have hl0 : l = [] := List.eq_nil_of_length_eq_zero (by omega)
    subst hl0
    have hn0 : n = 0 := by simpa using hn
    subst hn0
    clear hn hc hh ha hsrc
    have heq := fun w => Lib.run_eql_slice_nil (P := Tryd.prog) w 23 _ none 0 0 0 0 Tryd.underlying23
    go_enter Tryd.func84, Tryd.ntmps84
    go_wp2
    go_ret
    exact ⟨_, rfl, ownV.nil _, Below.refl _ _, fun b hb => by cases hb⟩
  | some a =>
    clear hn hc hh ha
    have heq := fun w => Lib.run_eql_slice_nil (P := Tryd.prog) w 23 _ (some a) n c 0 0 Tryd.underlying23
    go_enter Tryd.func84, Tryd.ntmps84
    have hb0 : Keeps (fun _ => False) w (w.alloc (.cells #[] 5)) := (Keeps.refl _ _).alloc _
    have hown : ownV (w.alloc (.cells #[] 5)) (.slice (some ⟨w.heap.size, 0, none⟩) 0 0) [] := ⟨_, 0, 0, rfl, rfl, Nat.le_refl _, ⟨fun _ => rfl, fun b hb => by cases hb; simp⟩, .inl rfl⟩
    have hs1 := hsrc _ (h.keep hb0 (fun _ _ => id))
    clear hsrc h
    go_wp2_with (at_builtin; refine wpList_append_any rfl _ _ _ _ rfl Tryd.underlying23 hi hz0 hz1 rfl rfl rfl hown hs1 ?_ ?_ ?_)
    · simp [hz2]; omega
    · simp; omega
    intro v' w' hv' hk hb hnil
    go_wp2
    go_ret
    exact newSeq_of_append (by simpa using hv') hk hb
end Go.Proofs.YtmnfehbnjgmgjaaDoor
