/- StoreOutcomes: the walk. -/
import Derived.Test.YtjiigajekminaaaDoorLawA
namespace Go.Proofs.YtjiigajekminaaaDoor
open Go.RowKit

/-- The name of the k-th object. -/
def nmL (k : Nat) : List UInt8 := [UInt8.ofNat (97 + k % 26), UInt8.ofNat (97 + k / 26)]
def nm (k : Nat) : ByteArray := bstr (nmL k)
theorem nm_valid : ∀ k, k < 30 → validB (nm k).data.toList = true := by decide +kernel
theorem nm_inj : ∀ j, j < 30 → ∀ k, k < 30 → j ≠ k → nm j ≠ nm k := by decide +kernel
theorem z_valid : validB (⟨#[122]⟩ : ByteArray).data.toList = true := by decide +kernel

/-- Behind k of the outcomes. -/
structure OutInv (outs : List Int) (B : Nat) (w0 : World) (p : Nat) (k : Nat) (f : Nat) (w : World) : Prop where
  body : ∃ st fp dt, StoreAt B w p st fp dt ∧ st.script = outs.drop k ∧ st.calls = k ∧ st.failed = f ∧ (∀ n, aget st.objs n ≠ none → ∃ j, j < k ∧ n = nm j) ∧ st.small
  below : Below B w0 w
  le : f ≤ k

theorem small_put {st : St} {n : ByteArray} {b : List UInt8} (h : st.small) (hb : b.length ≤ 1073741824) : St.small { st with objs := aput st.objs n b } := by
  refine ⟨fun m c hm => ?_, h.2⟩
  have key : ∀ (l : List (ByteArray × List UInt8)), (∀ n b, (n, b) ∈ l → b.length ≤ 1073741824) → ∀ m c, (m, c) ∈ aput l n b → c.length ≤ 1073741824 := by
    intro l hl
    induction l with
    | nil => intro m c hm; simp [aput] at hm; rw [hm.2]; exact hb
    | cons q l ih =>
      obtain ⟨k', v'⟩ := q
      intro m c hm
      simp only [aput] at hm
      split at hm
      · rcases List.mem_cons.1 hm with hm | hm
        · cases hm; exact hb
        · exact hl m c (.tail _ hm)
      · rcases List.mem_cons.1 hm with hm | hm
        · cases hm; exact hl _ _ (.head _)
        · exact ih (fun n b h => hl n b (.tail _ h)) m c hm
  exact key st.objs h.1 m c hm

theorem lit_nm (k : Nat) (hk : k < 30) : [Value.int .u8 (97 + (k : Int) % 26), Value.int .u8 (97 + (k : Int) / 26)] = bytesL (nmL k) := by
  have h1 : (UInt8.ofNat (97 + k % 26)).toNat = 97 + k % 26 := by simp; omega
  have h2 : (UInt8.ofNat (97 + k / 26)).toNat = 97 + k / 26 := by simp; omega
  simp only [bytesL, nmL, List.map_cons, List.map_nil, u8v, h1, h2]
  simp
theorem lit_k (k : Nat) (hk : k < 30) : [Value.int .u8 (k : Int)] = bytesL [UInt8.ofNat k] := by
  have h1 : (UInt8.ofNat k).toNat = k := by simp; omega
  simp only [bytesL, List.map_cons, List.map_nil, u8v, h1]
theorem out_next {st : St} {outs : List Int} {k : Nat} {x : Int} (hsc : st.script = outs.drop k) (hx : outs[k]? = some x) : st.next = x ∧ st.begin.script = outs.drop (k + 1) ∧ st.begin.objs = st.objs ∧ st.begin.failed = st.failed + (if x = 1 ∨ x = 2 then 1 else 0) := by
  have hd : outs.drop k = x :: outs.drop (k + 1) := by
    obtain ⟨hlt, rfl⟩ := List.getElem?_eq_some_iff.1 hx
    exact List.drop_eq_getElem_cons hlt
  have hn : st.next = x := by simp [St.next, hsc, hd]
  exact ⟨hn, by simp [St.begin, hsc], rfl, by simp only [St.begin, hn]⟩
/-- What a round's Put comes to. -/
structure OutStep (outs : List Int) (k f : Nat) (x : Int) (st st' : St) (c : Nat) : Prop where
  run : st.run (St.put1 (nm k) [UInt8.ofNat k]) = (c, st')
  script : st'.script = outs.drop (k + 1)
  calls : st'.calls = k + 1
  failed : st'.failed = f + (if x = 1 ∨ x = 2 then 1 else 0)
  keys : ∀ n, aget st'.objs n ≠ none → ∃ j, j < k + 1 ∧ n = nm j
  small : st'.small
theorem out_fails {st : St} {outs : List Int} {k f : Nat} {x : Int} (hk : k < 30) (hsc : st.script = outs.drop k) (hx : outs[k]? = some x) (hca : st.calls = k) (hfa : st.failed = f) (hkeys : ∀ n, aget st.objs n ≠ none → ∃ j, j < k ∧ n = nm j) (hsm : st.small) (h1 : x = 1) :
    ∃ st', OutStep outs k f x st st' 111 ∧ aget st'.objs (nm k) = none := by
  obtain ⟨hn, h2, h3, h4⟩ := out_next hsc hx
  refine ⟨st.begin, ⟨by simp [St.run, hn, h1], h2, by simp [St.begin, hca], by rw [h4, hfa], fun n hne => ?_, hsm⟩, ?_⟩
  · obtain ⟨j, hj, e⟩ := hkeys n hne
    exact ⟨j, by omega, e⟩
  · cases hg : aget st.objs (nm k) with
    | none => exact hg
    | some v =>
      obtain ⟨j, hj, e⟩ := hkeys (nm k) (by rw [hg]; simp)
      exact absurd e.symm (nm_inj j (by omega) k hk (by omega))
theorem out_puts {st : St} {outs : List Int} {k f : Nat} {x : Int} (hk : k < 30) (hsc : st.script = outs.drop k) (hx : outs[k]? = some x) (hca : st.calls = k) (hfa : st.failed = f) (hkeys : ∀ n, aget st.objs n ≠ none → ∃ j, j < k ∧ n = nm j) (hsm : st.small) (h1 : x ≠ 1) :
    ∃ st', OutStep outs k f x st st' (if x = 2 then 111 else 0) ∧ aget st'.objs (nm k) = some [UInt8.ofNat k] := by
  obtain ⟨hn, h2, h3, h4⟩ := out_next hsc hx
  have hp : St.put1 (nm k) [UInt8.ofNat k] st.begin = (0, { st.begin with objs := aput st.begin.objs (nm k) [UInt8.ofNat k] }) := by simp [St.put1, nm_valid k hk]
  refine ⟨{ st.begin with objs := aput st.begin.objs (nm k) [UInt8.ofNat k] }, ⟨?_, h2, by simp [St.begin, hca], by rw [← hfa]; exact h4, fun n hne => ?_, small_put (st := st.begin) hsm (by simp)⟩, aget_put_same _ _ _⟩
  · unfold St.run
    rw [if_neg (by omega), hp, hn]
  · by_cases e : n = nm k
    · exact ⟨k, by omega, e⟩
    · rw [aget_put_other _ _ e] at hne
      obtain ⟨j, hj, e⟩ := hkeys n hne
      exact ⟨j, by omega, e⟩

set_option maxHeartbeats 1000000 in
set_option maxRecDepth 100000 in
theorem storeOutcomes_walk {ad : Nat → Addr} {w : World} (hE : Errs allCodes ad w.heap.size w) {a : Option Addr} {n c : Nat} {outs : List Int} (ho : seqV w (.slice a n c) (intsL outs)) (hob : ∀ x, blk (.slice a n c) = some x → x < w.heap.size) :
    Calls Tryd.prog 3 #[.slice a n c] w (BoolNew true w) := by
  have hn : n = outs.length := by have := ho.len; simpa [intsL] using this.symm
  have HE := Lib.hid hE
  have HO := Lib.hid ho
  have HOB := Lib.hid hob
  obtain ⟨i1, hi1, hy0, hy1, hy2⟩ := info_parts info_u8
  clear hE ho hob
  by_cases hlen : n ≤ 30
  · have HN := Lib.hid hn
    clear hn
    go_enter Tryd.func3, Tryd.ntmps3
    go_wp2_with (first
      | (go_at_call 20; refine (first11_any HE.out (Nat.le_refl _)).mono ?_; rintro e w1 ⟨rfl, hb1⟩; have Hb1 := Lib.hid hb1; clear hb1)
      | (go_at_call 21; refine (new_any (B := w.heap.size) Hb1.out.size).mono ?_; rintro e w2 ⟨p, fp, rfl, hst, hb2, hfp⟩; have Hst := Lib.hid hst; have Hb2 := Lib.hid hb2; have Hfp := Lib.hid hfp; clear hst hb2 hfp)
      | (go_at_call 22; refine (script_any (outs := outs) Hst.out (HO.out.below (Hb1.out.trans (Hb2.out.mono Hb1.out.size)) HOB.out) (by have := HN.out; simp [St.empty]; omega)).mono ?_; rintro e w3 ⟨rfl, fp3, ht3⟩; have Ht3 := Lib.hid ht3; clear ht3))
    have hinv : OutInv outs w.heap.size w p 0 0 w3 := ⟨⟨_, _, _, Ht3.out.at_, by simp [St.empty], rfl, rfl, fun n h => by simp [St.empty, aget] at h, ⟨fun n b h => by simp [St.empty] at h, fun i u h => by simp [St.empty] at h⟩⟩,
      (Hb1.out.trans (Hb2.out.mono Hb1.out.size)).trans (Ht3.out.below Hst.out (Nat.le_trans Hb1.out.size Hb2.out.size)), Nat.le_refl _⟩
    have HI := Lib.hid hinv
    clear hinv
    go_loopw [5, 6] (fun bad i wr => ∃ k f : Nat, k ≤ n ∧ i = .int .i64 k ∧ bad = .int .i64 f ∧ OutInv outs w.heap.size w p k f wr) (fun _ i _ => n - (intOf i).toNat)
    case atStart => exact ⟨0, 0, Nat.zero_le _, rfl, rfl, HI.out⟩
    case round =>
      obtain ⟨k, f, hk, rfl, rfl, hinv⟩ := hrel
      obtain ⟨⟨st, fp4, dt4, hst4, hsc, hca, hfa, hkeys, hsm⟩, hbel, hfk⟩ := hinv
      have HS := Lib.hid hst4
      have Hsc := Lib.hid hsc
      have Hca := Lib.hid hca
      have Hfa := Lib.hid hfa
      have Hkeys := Lib.hid hkeys
      have Hsm := Lib.hid hsm
      have Hbel := Lib.hid hbel
      clear hst4 hsc hca hfa hkeys hsm hbel
      by_cases hkn : k < n
      · have hk30 : k < 30 := by omega
        obtain ⟨b, off, ha, hlt, hcell⟩ := HO.out.cell hkn
        subst ha
        obtain ⟨x, hx⟩ : ∃ x, outs[k]? = some x := ⟨outs[k]'(by have := HN.out; omega), List.getElem?_eq_getElem _⟩
        have hcx : w.cell? ⟨b, off + k, none⟩ = some (.int .i64 x) := by
          have hkl : k < (intsL outs).length := by have := HN.out; simp [intsL]; omega
          rw [hcell k hkl]
          obtain ⟨hlt, rfl⟩ := List.getElem?_eq_some_iff.1 hx
          simp [intsL]
        have Hcx := Lib.hid hcx
        clear hcell hcx
        have hcs : (convert 27 9 (.slice (some ⟨wr.heap.size, 0, none⟩) 2 2)).run Tryd.prog (wr.alloc (.cells [Value.int .u8 (97 + (k : Int) % 26), Value.int .u8 (97 + (k : Int) / 26)].toArray 5)) = .ok (.string (nm k)) (wr.alloc (.cells [Value.int .u8 (97 + (k : Int) % 26), Value.int .u8 (97 + (k : Int) / 26)].toArray 5)) :=
          run_string_of Tryd.underlying27 Tryd.underlying5 Tryd.underlying9 (by rw [← lit_nm k hk30]; exact seqV_lit wr _ _ 2 (0, 0) rfl)
        by_cases hx1 : x = 1
        · have hx3 := hx1
          clear hx3
          obtain ⟨st', hst', hget⟩ := out_fails hk30 Hsc.out hx Hca.out Hfa.out Hkeys.out Hsm.out hx1
          have hf' : st'.failed = f + 1 := by rw [hst'.failed]; simp [hx1]
          have Hst' := Lib.hid hst'
          have Hget := Lib.hid hget
          have Hf' := Lib.hid hf'
          have b1 : (x == 1) = true := by simp [hx1]
          have b2 : (x == 2) = false := by simp [hx1]
          clear hst' hget hf' hx hx1
          go_wp2_with (first
            | (refine wpList_buildSeq rfl _ _ _ rfl Tryd.underlying27 hi1 hy0 hy1 [.int .u8 (97 + (k : Int) % 26), .int .u8 (97 + (k : Int) / 26)] rfl (fun u hu => by simp at hu; rcases hu with rfl | rfl <;> rfl) rfl (by decide) (by decide) ?_)
            | (refine wpList_buildSeq rfl _ _ _ rfl Tryd.underlying27 hi1 hy0 hy1 [.int .u8 (k : Int)] rfl (fun u hu => by simp at hu; rcases hu with rfl; rfl) rfl (by decide) (by decide) ?_)
            | (go_at_call 23; refine (put_any (B := w.heap.size) (st := st) (n := nm k) (b := [UInt8.ofNat k]) (HS.out.keep (((Keeps.refl (fun _ => False) wr).alloc _).alloc _) fun _ _ => id) ((HE.out.below Hbel.out).keep (((Keeps.refl (fun _ => False) wr).alloc _).alloc _) Hbel.out.size fun _ _ => id) (by decide) (by decide) (by have := Hbel.out.size; simp; omega) (by rw [Hca.out]; omega) (by rw [Hfa.out]; omega) (by rw [← lit_k k hk30]; exact seqV_litAt (World.size_alloc _ _) 5 [Value.int .u8 (k : Int)] 1 (0, 0) rfl) (fun y hy hf => by have := HS.out.lt y (.inl hf); simp only [blk, Option.some.injEq] at hy; omega) (by simp)).mono ?_; rw [Hst'.out.run]; rintro e w5 ⟨rfl, fp5, dt5, ht5⟩; have Ht5 := Lib.hid (ht5.from (((Keeps.refl (fun _ => False) wr).alloc _).alloc _)); have Hb5 := Lib.hid (Hbel.out.trans (Ht5.out.below HS.out Hbel.out.size)); clear ht5)
            | (go_at_call 24; refine (bytes_any Ht5.out.at_ Hst'.out.small (nm k)).mono ?_; rw [Hget.out]; rintro e w6 ⟨v6, rfl, hv6, hb6, _⟩; have Hb6 := Lib.hid (Hb5.out.trans (hb6.mono Hb5.out.size)); have cx : w6.cell? ⟨b, off + k, none⟩ = some (.int .i64 x) := (Hb6.out.cell (p := ⟨b, off + k, none⟩) hlt).trans Hcx.out; clear hv6; have Hb56 := Lib.hid hb6; clear hb6)
            | (go_at_call 25; refine (is_any (d := 111) (HE.out.below Hb6.out) Hb6.out.size (by decide) 111).mono ?_; rintro e w7 ⟨rfl, hb7⟩; have Hb7 := Lib.hid hb7; clear hb7))
          go_roundw
          case rel => exact ⟨k + 1, f + 1, by omega, by go_num, by go_num, ⟨⟨st', fp5, dt5, Ht5.out.at_.keep ((Keeps.of_below Hb56.out (fun _ => False)).trans (Keeps.of_below Hb7.out (fun _ => False))) fun _ _ => id, Hst'.out.script, Hst'.out.calls, Hf'.out, Hst'.out.keys, Hst'.out.small⟩, Hb6.out.trans (Hb7.out.mono Hb6.out.size), by omega⟩⟩
          case measure => simp [intOf]; omega
        · by_cases hx2 : x = 2
          · have hx3 := hx2
            clear hx3
            obtain ⟨st', hst', hget⟩ := out_puts hk30 Hsc.out hx Hca.out Hfa.out Hkeys.out Hsm.out hx1
            rw [if_pos hx2] at hst'
            have hf' : st'.failed = f + 1 := by rw [hst'.failed]; simp [hx1, hx2]
            have Hst' := Lib.hid hst'
            have Hget := Lib.hid hget
            have Hf' := Lib.hid hf'
            have b1 : (x == 1) = false := by simp [hx1]
            have b2 : (x == 2) = true := by simp [hx2]
            clear hst' hget hf' hx hx1 hx2
            go_wp2_with (first
              | (refine wpList_buildSeq rfl _ _ _ rfl Tryd.underlying27 hi1 hy0 hy1 [.int .u8 (97 + (k : Int) % 26), .int .u8 (97 + (k : Int) / 26)] rfl (fun u hu => by simp at hu; rcases hu with rfl | rfl <;> rfl) rfl (by decide) (by decide) ?_)
              | (refine wpList_buildSeq rfl _ _ _ rfl Tryd.underlying27 hi1 hy0 hy1 [.int .u8 (k : Int)] rfl (fun u hu => by simp at hu; rcases hu with rfl; rfl) rfl (by decide) (by decide) ?_)
              | (go_at_call 23; refine (put_any (B := w.heap.size) (st := st) (n := nm k) (b := [UInt8.ofNat k]) (HS.out.keep (((Keeps.refl (fun _ => False) wr).alloc _).alloc _) fun _ _ => id) ((HE.out.below Hbel.out).keep (((Keeps.refl (fun _ => False) wr).alloc _).alloc _) Hbel.out.size fun _ _ => id) (by decide) (by decide) (by have := Hbel.out.size; simp; omega) (by rw [Hca.out]; omega) (by rw [Hfa.out]; omega) (by rw [← lit_k k hk30]; exact seqV_litAt (World.size_alloc _ _) 5 [Value.int .u8 (k : Int)] 1 (0, 0) rfl) (fun y hy hf => by have := HS.out.lt y (.inl hf); simp only [blk, Option.some.injEq] at hy; omega) (by simp)).mono ?_; rw [Hst'.out.run]; rintro e w5 ⟨rfl, fp5, dt5, ht5⟩; have Ht5 := Lib.hid (ht5.from (((Keeps.refl (fun _ => False) wr).alloc _).alloc _)); have Hb5 := Lib.hid (Hbel.out.trans (Ht5.out.below HS.out Hbel.out.size)); clear ht5)
              | (go_at_call 24; refine (bytes_any Ht5.out.at_ Hst'.out.small (nm k)).mono ?_; rw [Hget.out]; rintro e w6 ⟨v6, rfl, hv6, hb6, _⟩; have Hb6 := Lib.hid (Hb5.out.trans (hb6.mono Hb5.out.size)); have cx : w6.cell? ⟨b, off + k, none⟩ = some (.int .i64 x) := (Hb6.out.cell (p := ⟨b, off + k, none⟩) hlt).trans Hcx.out; clear hv6; have Hb56 := Lib.hid hb6; clear hb6)
              | (go_at_call 25; refine (is_any (d := 111) (HE.out.below Hb6.out) Hb6.out.size (by decide) 111).mono ?_; rintro e w7 ⟨rfl, hb7⟩; have Hb7 := Lib.hid hb7; clear hb7))
            go_roundw
            case rel => exact ⟨k + 1, f + 1, by omega, by go_num, by go_num, ⟨⟨st', fp5, dt5, Ht5.out.at_.keep ((Keeps.of_below Hb56.out (fun _ => False)).trans (Keeps.of_below Hb7.out (fun _ => False))) fun _ _ => id, Hst'.out.script, Hst'.out.calls, Hf'.out, Hst'.out.keys, Hst'.out.small⟩, Hb6.out.trans (Hb7.out.mono Hb6.out.size), by omega⟩⟩
            case measure => simp [intOf]; omega
          · have hx3 := hx2
            clear hx3
            obtain ⟨st', hst', hget⟩ := out_puts hk30 Hsc.out hx Hca.out Hfa.out Hkeys.out Hsm.out hx1
            rw [if_neg hx2] at hst'
            have hf' : st'.failed = f := by rw [hst'.failed]; simp [hx1, hx2]
            have Hst' := Lib.hid hst'
            have Hget := Lib.hid hget
            have Hf' := Lib.hid hf'
            have b1 : (x == 1) = false := by simp [hx1]
            have b2 : (x == 2) = false := by simp [hx2]
            clear hst' hget hf' hx hx1 hx2
            go_wp2_with (first
              | (refine wpList_buildSeq rfl _ _ _ rfl Tryd.underlying27 hi1 hy0 hy1 [.int .u8 (97 + (k : Int) % 26), .int .u8 (97 + (k : Int) / 26)] rfl (fun u hu => by simp at hu; rcases hu with rfl | rfl <;> rfl) rfl (by decide) (by decide) ?_)
              | (refine wpList_buildSeq rfl _ _ _ rfl Tryd.underlying27 hi1 hy0 hy1 [.int .u8 (k : Int)] rfl (fun u hu => by simp at hu; rcases hu with rfl; rfl) rfl (by decide) (by decide) ?_)
              | (go_at_call 23; refine (put_any (B := w.heap.size) (st := st) (n := nm k) (b := [UInt8.ofNat k]) (HS.out.keep (((Keeps.refl (fun _ => False) wr).alloc _).alloc _) fun _ _ => id) ((HE.out.below Hbel.out).keep (((Keeps.refl (fun _ => False) wr).alloc _).alloc _) Hbel.out.size fun _ _ => id) (by decide) (by decide) (by have := Hbel.out.size; simp; omega) (by rw [Hca.out]; omega) (by rw [Hfa.out]; omega) (by rw [← lit_k k hk30]; exact seqV_litAt (World.size_alloc _ _) 5 [Value.int .u8 (k : Int)] 1 (0, 0) rfl) (fun y hy hf => by have := HS.out.lt y (.inl hf); simp only [blk, Option.some.injEq] at hy; omega) (by simp)).mono ?_; rw [Hst'.out.run]; rintro e w5 ⟨rfl, fp5, dt5, ht5⟩; have Ht5 := Lib.hid (ht5.from (((Keeps.refl (fun _ => False) wr).alloc _).alloc _)); have Hb5 := Lib.hid (Hbel.out.trans (Ht5.out.below HS.out Hbel.out.size)); clear ht5; rw [errV_zero])
              | (go_at_call 24; refine (bytes_any Ht5.out.at_ Hst'.out.small (nm k)).mono ?_; rw [Hget.out]; rintro e w6 ⟨v6, rfl, hv6, hb6, _⟩; have Hb6 := Lib.hid (Hb5.out.trans (hb6.mono Hb5.out.size)); have cx : w6.cell? ⟨b, off + k, none⟩ = some (.int .i64 x) := (Hb6.out.cell (p := ⟨b, off + k, none⟩) hlt).trans Hcx.out; clear hv6; have Hb56 := Lib.hid hb6; clear hb6)
              | (go_at_call 25; refine (is_any (d := 0) (HE.out.below Hb6.out) Hb6.out.size (by decide) 111).mono ?_; rintro e w7 ⟨rfl, hb7⟩; have Hb7 := Lib.hid hb7; clear hb7))
            go_roundw
            case rel => exact ⟨k + 1, f, by omega, by go_num, by go_num, ⟨⟨st', fp5, dt5, Ht5.out.at_.keep ((Keeps.of_below Hb56.out (fun _ => False)).trans (Keeps.of_below Hb7.out (fun _ => False))) fun _ _ => id, Hst'.out.script, Hst'.out.calls, Hf'.out, Hst'.out.keys, Hst'.out.small⟩, Hb6.out.trans (Hb7.out.mono Hb6.out.size), by omega⟩⟩
            case measure => simp [intOf]; omega
      · have hkn' : k = n := by omega
        subst hkn'
        have hsc' : st.script = [] := by rw [Hsc.out]; exact List.drop_eq_nil_of_le (by have := HN.out; omega)
        have hrun : st.run (St.put1 ⟨#[122]⟩ []) = (0, { st.begin with objs := aput st.begin.objs ⟨#[122]⟩ [] }) := by
          have hn0 : st.next = 0 := by simp [St.next, hsc']
          have hp : St.put1 ⟨#[122]⟩ [] st.begin = (0, { st.begin with objs := aput st.begin.objs ⟨#[122]⟩ [] }) := by unfold St.put1; rw [if_pos z_valid]
          unfold St.run
          rw [if_neg (by omega), if_neg (by omega), hp]
        have Hrun := Lib.hid hrun
        have hf2 : ({ st.begin with objs := aput st.begin.objs ⟨#[122]⟩ [] } : St).failed = f := by
          have hn0 : st.next = 0 := by simp [St.next, hsc']
          show st.failed + (if st.next = 1 ∨ st.next = 2 then 1 else 0) = f
          rw [hn0, if_neg (by omega)]
          exact Hfa.out
        have Hf2 := Lib.hid hf2
        clear hrun hsc' hf2
        go_wp2_with (first
          | (go_at_call 26; refine (calls_any HS.out).mono ?_; rw [Hca.out]; rintro e w5 ⟨rfl, rfl⟩)
          | (go_at_call 23; refine (put_any (B := w.heap.size) (st := st) (n := ⟨#[122]⟩) (b := []) HS.out (HE.out.below Hbel.out) (by decide) (by decide) Hbel.out.size (by rw [Hca.out]; omega) (by rw [Hfa.out]; omega) (seqV.nil _) (fun y hy hf => by cases hy) (by decide)).mono ?_; rw [Hrun.out]; rintro e w5 ⟨rfl, fp5, dt5, ht5⟩; have Ht5 := Lib.hid ht5; clear ht5; rw [errV_zero])
          | (go_at_call 27; refine (failed_any Ht5.out.at_).mono ?_; rw [Hf2.out]; rintro e w6 ⟨rfl, rfl⟩)
          | (go_at_call 27; refine (failed_any HS.out).mono ?_; rw [Hfa.out]; rintro e w6 ⟨rfl, rfl⟩))
        go_ret
        exact ⟨ret_bool (by simp), Hbel.out.trans (Ht5.out.below HS.out Hbel.out.size)⟩
  · go_enter Tryd.func3, Tryd.ntmps3
    clear hn
    go_wp2_with (go_at_call 20; refine (first11_any HE.out (Nat.le_refl _)).mono ?_; rintro e w1 ⟨rfl, hb1⟩; have Hb1 := Lib.hid hb1; clear hb1)
    go_ret
    exact ⟨rfl, Hb1.out⟩
end Go.Proofs.YtjiigajekminaaaDoor
