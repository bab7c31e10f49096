/- The store's walks, first part: New, Calls, Failed, Bytes, Script, call. -/
import Derived.Test.YtjiigajekminaaaDoorSt
namespace Go.Proofs.YtjiigajekminaaaDoor
set_option linter.all false
open Go.RowKit

def St.empty : St := { objs := [], ups := [], ids := 0, script := [], calls := 0, failed := 0 }
def StNew (B : Nat) (w : World) (e : Ending) (w' : World) : Prop :=
  ∃ p fp, e = .returned (.pointer (some ⟨p, 0, none⟩)) ∧ StoreAt B w' p St.empty fp [] ∧ Below w.heap.size w w' ∧ ∀ k ∈ fp, w.heap.size ≤ k
theorem new_any {B : Nat} {w : World} (hB : B ≤ w.heap.size) : Calls Tryd.prog 21 #[] w (StNew B w) := by
  have hmm := @run_makeMap Tryd.prog
  go_enter Tryd.func21, Tryd.ntmps21
  go_wp2
  go_ret
  have k1 : Keeps (fun _ => False) (w.alloc (.map #[] 0)) ((w.alloc (.map #[] 0)).alloc (.map #[] 0)) := (Keeps.refl _ _).alloc _
  have k2 : Keeps (fun _ => False) ((w.alloc (.map #[] 0)).alloc (.map #[] 0)) (((w.alloc (.map #[] 0)).alloc (.map #[] 0)).alloc (.cells (StoreCells w.heap.size (w.heap.size + 1) 0 (.slice none 0 0) 0 0) 94)) := (Keeps.refl _ _).alloc _
  have m0 : MapAt (((w.alloc (.map #[] 0)).alloc (.map #[] 0)).alloc (.cells (StoreCells w.heap.size (w.heap.size + 1) 0 (.slice none 0 0) 0 0) 94)) Value.string w.heap.size [] := ((MapAt.made w Value.string).keep k1 id).keep k2 id
  have m1 : MapAt (((w.alloc (.map #[] 0)).alloc (.map #[] 0)).alloc (.cells (StoreCells w.heap.size (w.heap.size + 1) 0 (.slice none 0 0) 0 0) 94)) (Value.int .i64) (w.heap.size + 1) [] := by
    have := (MapAt.made (w.alloc (.map #[] 0)) (Value.int .i64)).keep k2 id
    simpa using this
  have hc : (((w.alloc (.map #[] 0)).alloc (.map #[] 0)).alloc (.cells (StoreCells w.heap.size (w.heap.size + 1) 0 (.slice none 0 0) 0 0) 94)).heap[w.heap.size + 1 + 1]? = some (.cells (StoreCells w.heap.size (w.heap.size + 1) 0 (.slice none 0 0) 0 0) 94 (0, 0)) := by
    have := World.alloc_heap_new ((w.alloc (.map #[] 0)).alloc (.map #[] 0)) (.cells (StoreCells w.heap.size (w.heap.size + 1) 0 (.slice none 0 0) 0 0) 94)
    simpa using this
  have hin := (StIn.mk (p := w.heap.size + 1 + 1) (st := St.empty) (fp := [w.heap.size, w.heap.size + 1, w.heap.size + 1 + 1]) (dt := []) (es := []) (us := []) hc m0 trivial m1 trivial (ownV.nil _) (fun b hb => by cases hb) (by simp) (by simp) (fun e he => by cases he) (by simp))
  refine ⟨w.heap.size + 1 + 1, [w.heap.size, w.heap.size + 1, w.heap.size + 1 + 1], rfl, ⟨⟨w.heap.size, w.heap.size + 1, .slice none 0 0, [], [], hin⟩, by simp, (fun k _ h => by cases h), fun k hk => ?_, fun k hk => ?_⟩,
    (((Below.refl _ w).alloc (Nat.le_refl _) _).alloc (by simp) _).alloc (by simp; omega) _, fun k hk => ?_⟩
  · simp at hk; omega
  · simp at hk ⊢; omega
  · simp at hk; omega

theorem calls_any {B : Nat} {w : World} {p : Nat} {st : St} {fp dt : List Nat} (h : StoreAt B w p st fp dt) :
    Calls Tryd.prog 26 #[.pointer (some ⟨p, 0, none⟩)] w fun e w' => e = .returned (.int .i64 st.calls) ∧ w = w' := by
  obtain ⟨mo, mu, sv, es, us, hi⟩ := h.body
  have c4 : w.cell? ⟨p, 4, none⟩ = some (.int .i64 st.calls) := cell_at hi.cells rfl
  clear h hi
  go_enter Tryd.func26, Tryd.ntmps26
  go_wp2
  go_ret
  exact ⟨rfl, rfl⟩
theorem failed_any {B : Nat} {w : World} {p : Nat} {st : St} {fp dt : List Nat} (h : StoreAt B w p st fp dt) :
    Calls Tryd.prog 27 #[.pointer (some ⟨p, 0, none⟩)] w fun e w' => e = .returned (.int .i64 st.failed) ∧ w = w' := by
  obtain ⟨mo, mu, sv, es, us, hi⟩ := h.body
  have c5 : w.cell? ⟨p, 5, none⟩ = some (.int .i64 st.failed) := cell_at hi.cells rfl
  clear h hi
  go_enter Tryd.func27, Tryd.ntmps27
  go_wp2
  go_ret
  exact ⟨rfl, rfl⟩

theorem zero_bytes (w : World) : (zeroValue 27).run Tryd.prog w = .ok (.slice none 0 0) w := by kernel_rfl
def BytesPost (w : World) (o : Option (List UInt8)) (e : Ending) (w' : World) : Prop :=
  ∃ v', e = .returned (.tuple #[v', .bool o.isSome]) ∧ ownV w' v' (bytesL (o.getD [])) ∧ Below w.heap.size w w' ∧ ∀ b, blk v' = some b → w.heap.size ≤ b ∧ b < w'.heap.size
/-- Every object is short. -/
def St.small (st : St) : Prop := (∀ n b, (n, b) ∈ st.objs → b.length ≤ 1073741824) ∧ ∀ i u, (i, u) ∈ st.ups → ∀ k b, (k, b) ∈ u.parts → b.length ≤ 4194304
theorem bytes_any {B : Nat} {w : World} {p : Nat} {st : St} {fp dt : List Nat} (h : StoreAt B w p st fp dt) (hsm : st.small) (n : ByteArray) :
    Calls Tryd.prog 24 #[.pointer (some ⟨p, 0, none⟩), .string n] w (BytesPost w (aget st.objs n)) := by
  obtain ⟨mo, mu, sv, es, us, hi⟩ := h.body
  have c0 : w.cell? ⟨p, 0, none⟩ = some (.map (some mo)) := cell_at hi.cells rfl
  have hl := run_lookup_at strKind Tryd.underlying91 Tryd.underlying9 hi.mapO n (zero_bytes w) true
  simp only [if_true] at hl
  rcases hi.objs.get n with ⟨g1, g2⟩ | ⟨v, b, g1, g2, g3⟩
  · rw [g2]
    rw [g1] at hl
    simp only [Option.getD_none, Option.isSome_none] at hl
    clear h hi g1 g2
    go_enter Tryd.func24, Tryd.ntmps24
    go_wp2_with (go_at_call 69; refine (clone_bytes _ [] _ (seqV.nil _) (fun _ h => by cases h) (by simp)).mono ?_; rintro e w' ⟨v', rfl, hv, hb, hbk⟩)
    go_ret2
    exact ⟨v', rfl, hv, hb, hbk⟩
  · rw [g2]
    rw [g1] at hl
    simp only [Option.getD_some, Option.isSome_some] at hl
    have hlen : (bytesL b).length ≤ 1073741824 := by simpa [bytesL] using hsm.1 n b (aget_mem g2)
    have G3 := g3.1
    clear h hi g1 g2 g3 hsm
    go_enter Tryd.func24, Tryd.ntmps24
    go_wp2_with (go_at_call 69; refine (clone_bytes _ _ _ G3 (bytesL_one _) hlen).mono ?_; rintro e w' ⟨v', rfl, hv, hb, hbk⟩)
    go_ret2
    exact ⟨v', rfl, hv, hb, hbk⟩
end Go.Proofs.YtjiigajekminaaaDoor
