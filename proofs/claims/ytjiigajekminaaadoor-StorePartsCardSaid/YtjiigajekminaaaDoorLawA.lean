/- Chapter 11's statements: what they share: bytes as a string; the chapter's examples ('first'). -/
import Derived.Test.YtjiigajekminaaaDoorStP
import Derived.Lib.SlBytesConst
namespace Go.Proofs.YtjiigajekminaaaDoor
set_option linter.all false
open Go.RowKit

/-- Bytes as a string. -/
def bstr (l : List UInt8) : ByteArray := ⟨l.toArray⟩
theorem foldl_push (l : List UInt8) : ∀ s : ByteArray, (l.map fun b => (b.toNat : Int)).foldl (fun (r : ByteArray) n => r.push (UInt8.ofNat n.toNat)) s = ⟨s.data ++ l.toArray⟩ := by
  induction l with
  | nil => intro s; simp
  | cons b l ih =>
    intro s
    simp only [List.map_cons, List.foldl_cons, ih]
    have : UInt8.ofNat (b.toNat : Int).toNat = b := by simp
    rw [this]
    simp [ByteArray.push]
theorem run_string_of {P : Program} {w : World} {src dst e : TypeId} (hs : P.underlying src = some (.slice e)) (he : P.underlying e = some (.int .u8)) (hd : P.underlying dst = some .string) {v : Value} {l : List UInt8} (h : seqV w v (bytesL l)) :
    (convert src dst v).run P w = .ok (.string (bstr l)) w := by
  obtain ⟨a, n, c, rfl, hn, hc, ha, hr⟩ := h
  have hn : n = l.length := by simpa [bytesL] using hn
  subst hn
  rw [run_convert_bytes_string w src dst e a l.length c hs he hd]
  cases a with
  | none =>
    have : c = 0 := ha rfl
    have : l = [] := List.eq_nil_of_length_eq_zero (by omega)
    subst this
    rfl
  | some a =>
    have hl : (loadCells a l.length).run P w = .ok ((l.map fun b => (b.toNat : Int)).map (Value.int .u8)).toArray w := by
      have h2 : (l.map fun b => (b.toNat : Int)).map (Value.int .u8) = bytesL l := by simp [bytesL, u8v, Function.comp_def]
      rw [h2]
      have := run_loadCells_list (P := P) w a (bytesL l) (fun j v hj => ?_)
      · simpa [bytesL] using this
      · have hjl := (List.getElem?_eq_some_iff.1 hj).1
        rcases hr with h | ⟨b, off, cs, E, fz, ha, hb, _, hcs⟩
        · simp [bytesL] at hjl; omega
        · obtain rfl := Option.some.inj ha
          rw [Addr.add_lit]
          exact cell_at hb (by rw [hcs j hjl, hj])
    rw [run_bytesToString w a l.length c _ hl, foldl_push]
    simp [bstr]

/-- A literal that has just been laid. -/
theorem seqV_lit (w : World) (E : TypeId) (l : List Value) (n : Nat) (fz : Nat × Nat) (hn : n = l.length) : seqV (w.alloc (.cells l.toArray E fz)) (.slice (some ⟨w.heap.size, 0, none⟩) n n) l := by
  subst hn
  exact ⟨_, _, _, rfl, rfl, Nat.le_refl _, (fun h => by cases h), .inr ⟨_, 0, _, _, _, rfl, World.alloc_heap_new w _, by simp, fun i hi => by simp⟩⟩
theorem seqV_litAt {w : World} {N : Nat} (hN : w.heap.size = N) (E : TypeId) (l : List Value) (n : Nat) (fz : Nat × Nat) (hn : n = l.length) : seqV (w.alloc (.cells l.toArray E fz)) (.slice (some ⟨N, 0, none⟩) n n) l := by
  subst hN
  exact seqV_lit w E l n fz hn
def sOne : St := { St.empty with script := [2] }
def sTwo : St := { objs := [(⟨#[97]⟩, [120])], ups := [], ids := 0, script := [], calls := 1, failed := 1 }
theorem first_run : sOne.run (St.put1 ⟨#[97]⟩ [120]) = (111, sTwo) := by kernel_rfl
theorem first_get : aget sTwo.objs ⟨#[97]⟩ = some [120] := by kernel_rfl

set_option maxRecDepth 100000 in
theorem first11_any {ad : Nat → Addr} {B : Nat} {w : World} (hE : Errs allCodes ad B w) (hB : B ≤ w.heap.size) : Calls Tryd.prog 20 #[] w (BoolNew true w) := by
  have HE := Lib.hid (hE.mono hB)
  have hs2 : St.small sTwo := ⟨fun n b h => by simp [sTwo] at h; obtain ⟨_, rfl⟩ := h; decide, fun i u h => by simp [sTwo] at h⟩
  have HS2 := Lib.hid hs2
  clear hs2
  obtain ⟨i0, hi0, hz0, hz1, hz2⟩ := info_parts info_int
  obtain ⟨i1, hi1, hy0, hy1, hy2⟩ := info_parts info_u8
  clear hE
  go_enter Tryd.func20, Tryd.ntmps20
  have hcb := fun (w : World) (C : Array Value) (n c : Nat) => Lib.run_convert_bytes_const (P := Tryd.prog) w 27 5 C n c Tryd.underlying27 Tryd.underlying5
  go_wp2_with (first
    | (go_at_call 21; refine (new_any (B := w.heap.size) (Nat.le_refl _)).mono ?_; rintro e w1 ⟨p, fp, rfl, hst, hb1, hfp⟩; have Hst := Lib.hid hst; have Hb1 := Lib.hid hb1; have Hfp := Lib.hid hfp; clear hst hb1 hfp)
    | (refine wpList_buildSeq rfl _ _ _ rfl Tryd.underlying22 hi0 hz0 hz1 (intsL [2]) rfl (fun u hu => by simp [intsL] at hu; subst hu; rfl) rfl (by decide) (by decide) ?_)
    | (go_at_call 22; refine (script_any (outs := [2]) (Hst.out.keep ((Keeps.refl (fun _ => False) w1).alloc _) (fun _ _ => id)) (seqV_lit w1 _ _ 1 (0, 0) rfl) (by decide)).mono ?_; rintro e w2 ⟨rfl, fp2, ht2⟩; have Ht2 := Lib.hid (StTurned.from ((Keeps.refl (fun _ => False) w1).alloc _) ht2); clear ht2)
    | (refine wpList_buildSeq rfl _ _ _ rfl Tryd.underlying27 hi1 hy0 hy1 (bytesL [120]) rfl (fun u hu => by simp [bytesL] at hu; subst hu; rfl) rfl (by decide) (by decide) ?_))
  have hB2 : w.heap.size ≤ w2.heap.size := Nat.le_trans Hb1.out.size Ht2.out.keeps.size
  have hbw2 : Below w.heap.size w w2 := Hb1.out.trans (Ht2.out.below Hst.out Hb1.out.size)
  have kw : Keeps (fun _ => False) w2 (w2.alloc (.cells (bytesL [120]).toArray 5 ((bytesL [120]).length, (bytesL [120]).length + 1))) := (Keeps.refl _ _).alloc _
  refine (put_any (B := w.heap.size) (st := sOne) (dt := []) (Ht2.out.at_.keep kw fun _ _ => id) ((HE.out.below hbw2).keep kw hB2 fun _ _ => id) (by decide) (by decide) (Nat.le_trans hB2 kw.size) (by decide) (by decide) (seqV_lit w2 _ (bytesL [120]) 1 _ rfl) (fun x hx hf => by have := Ht2.out.at_.lt x (.inl hf); simp only [blk, Option.some.injEq] at hx; omega) (by decide)).mono ?_
  rintro e w3 ⟨rfl, fp3, dt3, ht3⟩
  rw [first_run] at ht3
  have Ht3 := Lib.hid (ht3.from kw)
  have hbw3 : Below w.heap.size w w3 := hbw2.trans (Ht3.out.below Ht2.out.at_ hB2)
  have hE3 := HE.out.below hbw3
  have HE3 := Lib.hid hE3
  have hB3 : w.heap.size ≤ w3.heap.size := hbw3.size
  have Hbw3 := Lib.hid hbw3
  rw [first_run]
  clear ht3 kw hbw2 hbw3 hE3
  go_wp2_with (first
    | (go_at_call 24; refine (bytes_any Ht3.out.at_ HS2.out ⟨#[97]⟩).mono ?_; rw [first_get]; rintro e w4 ⟨v4, rfl, hv4, hb4, _⟩; have Hv4 := Lib.hid hv4; have Hb4 := Lib.hid hb4; clear hv4 hb4)
    | (go_at_call 25; refine (is_any (d := 111) (HE3.out.below (Hb4.out.mono hB3)) (Nat.le_trans hB3 Hb4.out.size) (by decide) 111).mono ?_; rintro e w5 ⟨rfl, hb5⟩; have Hb5 := Lib.hid hb5; have hcs := run_string_of (P := Tryd.prog) (w := w5) Tryd.underlying27 Tryd.underlying5 Tryd.underlying9 (l := [120]) (Hv4.out.seq.below hb5 Hv4.out.lt); clear hb5))
  go_ret
  exact ⟨ret_bool (by decide +kernel), Hbw3.out.trans ((Hb4.out.mono hB3).trans (Hb5.out.mono (Nat.le_trans hB3 Hb4.out.size)))⟩
end Go.Proofs.YtjiigajekminaaaDoor
