/- The client: New, Asked; chapter 12's examples. -/
import Derived.Test.YtjiigajekminaaaDoorCl
namespace Go.Proofs.YtjiigajekminaaaDoor
open Go.RowKit

def ClNewPost (w : World) (p : Nat) (tries : Nat) (e : Ending) (w' : World) : Prop :=
  e = .returned (.tuple #[.pointer (some ⟨w.heap.size, 0, none⟩), .nilIface]) ∧ w' = w.alloc (.cells (ClientCells p tries 0) 104)
theorem clNew_any {w : World} {p tries : Nat} (h1 : 1 ≤ tries) (h8 : tries ≤ 8) : Calls Tryd.prog 35 #[.pointer (some ⟨p, 0, none⟩), .int .i64 tries] w (ClNewPost w p tries) := by
  go_enter Tryd.func35, Tryd.ntmps35
  go_wp2
  go_ret2
  exact ⟨rfl, rfl⟩
theorem clNew_at {B : Nat} {w w' : World} {p tries : Nat} {st : St} {fp dt : List Nat} {e : Ending} (h : StoreAt B w p st fp dt) (hB : B ≤ w.heap.size) (k : ClNewPost w p tries e w') :
    ClAt B w' w.heap.size p tries 0 st fp dt ∧ Below w.heap.size w w' := by
  obtain ⟨_, rfl⟩ := k
  have k0 : Keeps (fun _ => False) w (w.alloc (.cells (ClientCells p tries 0) 104)) := (Keeps.refl _ _).alloc _
  exact ⟨⟨h.keep k0 fun _ _ => id, World.alloc_heap_new w _, fun hf => by have := h.lt _ (.inl hf); omega, fun hf => by have := h.lt _ (.inr hf); omega, hB⟩, k0.below (Nat.le_refl _) fun _ _ => id⟩
theorem asked_any {B : Nat} {w : World} {q p : Nat} {tries asked : Int} {st : St} {fp dt : List Nat} (h : ClAt B w q p tries asked st fp dt) :
    Calls Tryd.prog 37 #[.pointer (some ⟨q, 0, none⟩)] w fun e w' => e = .returned (.int .i64 asked) ∧ w = w' := by
  have c2 : w.cell? ⟨q, 2, none⟩ = some (.int .i64 asked) := cell_at h.cells rfl
  clear h
  go_enter Tryd.func37, Tryd.ntmps37
  go_wp2
  go_ret
  exact ⟨rfl, rfl⟩

theorem first12_run : ({ St.empty with script := [2] } : St).again (St.put1 ⟨#[97]⟩ []) 2 = (true, 0, 2, { objs := [(⟨#[97]⟩, [])], ups := [], ids := 0, script := [], calls := 2, failed := 1 }) := by kernel_rfl

set_option maxRecDepth 100000 in
theorem first12_any {L : List Nat} {ad : Nat → Addr} {B : Nat} {w : World} (hE : Errs L ad B w) (h106 : 106 ∈ L) (h111 : 111 ∈ L) (hB : B ≤ w.heap.size) : Calls Tryd.prog 33 #[] w (BoolNew true w) := by
  have HE := Lib.hid (hE.mono hB)
  obtain ⟨i0, hi0, hz0, hz1, hz2⟩ := info_parts info_int
  clear hE
  go_enter Tryd.func33, Tryd.ntmps33
  go_wp2_with (first
    | (go_at_call 21; refine (new_any (B := w.heap.size) (Nat.le_refl _)).mono ?_; rintro e w1 ⟨p, fp, rfl, hst, hb1, hfp⟩; have Hst := Lib.hid hst; have Hb1 := Lib.hid hb1; clear hst hb1 hfp)
    | (go_at_call 35; refine (clNew_any (tries := 2) (by decide) (by decide)).mono ?_; rintro e w2 hn; have Hn := Lib.hid (clNew_at Hst.out Hb1.out.size hn); obtain ⟨rfl, hw⟩ := hn; clear hw)
    | (refine wpList_buildSeq rfl _ _ _ rfl Tryd.underlying22 hi0 hz0 hz1 (intsL [2]) rfl (fun u hu => by simp [intsL] at hu; subst hu; rfl) rfl (by decide) (by decide) ?_)
    | (go_at_call 22; refine (script_any (outs := [2]) (Hn.out.1.store.keep ((Keeps.refl (fun _ => False) w2).alloc _) (fun _ _ => id)) (seqV_lit w2 _ _ 1 (0, 0) rfl) (by decide)).mono ?_; rintro e w3 ⟨rfl, fp3, ht3⟩; have Ht3 := Lib.hid (Hn.out.1.turned (StTurned.from ((Keeps.refl (fun _ => False) w2).alloc _) ht3)); have Hb3 := Lib.hid ((Hb1.out.trans (Hn.out.2.mono Hb1.out.size)).trans (Ht3.out.below Hn.out.1 (Nat.le_trans Hb1.out.size Hn.out.2.size))); clear ht3)
    | (go_at_call 36; refine (clPut_any (b := []) Ht3.out.at_ (HE.out.below Hb3.out) h106 h111 Hb3.out.size (by decide) (by decide) (by decide) (by decide) (seqV.nil _) (fun x hx => by cases hx) (by decide)).mono ?_; rw [show (St.again (St.put1 ⟨#[97]⟩ []) 2 { St.empty with script := St.empty.script ++ [2] }) = _ from first12_run]; rintro e w4 ⟨rfl, fp4, dt4, ht4⟩; have Ht4 := Lib.hid ht4; have Hb4 := Lib.hid (Hb3.out.trans (ht4.below Ht3.out.at_ Hb3.out.size)); clear ht4; rw [errV_zero])
    | (go_at_call 37; refine (asked_any Ht4.out.at_).mono ?_; rintro e w5 ⟨rfl, rfl⟩))
  go_ret
  exact ⟨ret_bool (by decide +kernel), Hb4.out⟩
end Go.Proofs.YtjiigajekminaaaDoor
