/- CallEnds: the walk. -/
import Derived.Test.YtjiigajekminaaaDoorClN
import Derived.Test.YtjiigajekminaaaDoorLawOut
import Derived.Test.YtjiigajekminaaaDoorUtil
namespace Go.Proofs.YtjiigajekminaaaDoor
open Go.RowKit

theorem clNew_int {w : World} {p tries : Nat} {T : Int} (hT : T = tries) (h1 : 1 ≤ tries) (h8 : tries ≤ 8) : Calls Tryd.prog 35 #[.pointer (some ⟨p, 0, none⟩), .int .i64 T] w (ClNewPost w p tries) := by
  subst hT; exact clNew_any h1 h8

theorem put1_ok {n : ByteArray} {b : List UInt8} {st : St} (hv : validB n.data.toList = true) : St.put1 n b st = (0, { st with objs := aput st.objs n b }) := by simp [St.put1, hv]
theorem run_put_fails {n : ByteArray} {b : List UInt8} {st : St} (h : st.next = 1) : st.run (St.put1 n b) = (111, st.begin) := by simp [St.run, h]
theorem run_put_ok {n : ByteArray} {b : List UInt8} {st : St} (hv : validB n.data.toList = true) (h : st.next ≠ 1) : st.run (St.put1 n b) = (if st.next = 2 then 111 else 0, { st.begin with objs := aput st.objs n b }) := by
  unfold St.run
  rw [if_neg h, put1_ok hv]
  rfl

/-- What a Put comes to where all outcomes are bad ones. -/
structure EndsAs (n : ByteArray) (b : List UInt8) (out : Int) (bad t : Nat) (st : St) (x : Bool × Nat × Nat × St) : Prop where
  code : x.2.1 = if bad < t then 0 else 111
  count : x.2.2.1 = min (bad + 1) t
  small : x.2.2.2.small
  get : aget x.2.2.2.objs n = if bad < t ∨ (out = 2 ∧ 0 < t) then some b else aget st.objs n
theorem again_ends {n : ByteArray} {b : List UInt8} {out : Int} (ho : out = 1 ∨ out = 2) (hv : validB n.data.toList = true) (hb : b.length ≤ 1073741824) : ∀ (t bad : Nat) (st : St), st.script = List.replicate bad out → st.small → EndsAs n b out bad t st (st.again (St.put1 n b) t)
  | 0, bad, st, _, hs => ⟨by simp [St.again], by simp [St.again], hs, by simp [St.again]⟩
  | t + 1, 0, st, hsc, hs => by
    have hn : st.next = 0 := by simp [St.next, hsc]
    have hr := run_put_ok (b := b) hv (st := st) (by omega)
    rw [if_neg (by omega)] at hr
    have e : st.again (St.put1 n b) (t + 1) = (false, 0, 1, { st.begin with objs := aput st.objs n b }) := by simp [St.again, hr]
    rw [e]
    exact ⟨by simp, by simp, small_put (st := st.begin) hs hb, by simp [aget_put_same]⟩
  | t + 1, bad + 1, st, hsc, hs => by
    have hn : st.next = out := by simp [St.next, hsc, List.replicate_succ]
    have hb1 : st.begin.script = List.replicate bad out := by simp [St.begin, hsc, List.replicate_succ]
    rcases ho with ho | ho
    · have hr := run_put_fails (n := n) (b := b) (st := st) (by omega)
      have ih := again_ends (.inl ho) hv hb t bad st.begin hb1 hs
      have e : st.again (St.put1 n b) (t + 1) = (true, (st.begin.again (St.put1 n b) t).2.1, (st.begin.again (St.put1 n b) t).2.2.1 + 1, (st.begin.again (St.put1 n b) t).2.2.2) := by simp [St.again, hr]
      rw [e]
      refine ⟨?_, ?_, ih.small, ?_⟩
      · show (st.begin.again (St.put1 n b) t).2.1 = _
        rw [ih.code]; simp
      · show (st.begin.again (St.put1 n b) t).2.2.1 + 1 = _
        rw [ih.count]; omega
      · show aget (st.begin.again (St.put1 n b) t).2.2.2.objs n = _
        rw [ih.get]
        have h2 : ¬ out = 2 := by omega
        simp [h2]; rfl
    · have hr := run_put_ok (b := b) hv (st := st) (by omega)
      rw [if_pos (by omega)] at hr
      have ih := again_ends (.inr ho) hv hb t bad { st.begin with objs := aput st.objs n b } hb1 (small_put (st := st.begin) hs hb)
      have e : st.again (St.put1 n b) (t + 1) = (true, (St.again (St.put1 n b) t { st.begin with objs := aput st.objs n b }).2.1, (St.again (St.put1 n b) t { st.begin with objs := aput st.objs n b }).2.2.1 + 1, (St.again (St.put1 n b) t { st.begin with objs := aput st.objs n b }).2.2.2) := by simp [St.again, hr]
      rw [e]
      refine ⟨?_, ?_, ih.small, ?_⟩
      · show (St.again (St.put1 n b) t { st.begin with objs := aput st.objs n b }).2.1 = _
        rw [ih.code]; simp
      · show (St.again (St.put1 n b) t { st.begin with objs := aput st.objs n b }).2.2.1 + 1 = _
        rw [ih.count]; omega
      · show aget (St.again (St.put1 n b) t { st.begin with objs := aput st.objs n b }).2.2.2.objs n = _
        rw [ih.get]
        simp [ho, aget_put_same]

/-- Behind k of the outcomes. -/
structure CeInv (out : Int) (B : Nat) (w0 : World) (q p tries : Nat) (k : Nat) (w : World) : Prop where
  body : ∃ st fp dt, ClAt B w q p tries 0 st fp dt ∧ st.script = List.replicate k out ∧ st.small ∧ st.calls = 0 ∧ st.failed = 0 ∧ aget st.objs ⟨#[111]⟩ = none
  below : Below B w0 w
theorem o_valid : validB (⟨#[111]⟩ : ByteArray).data.toList = true := by decide +kernel

set_option maxHeartbeats 1000000 in
set_option maxRecDepth 100000 in
theorem callEnds_walk {ad : Nat → Addr} {w : World} (hE : Errs allCodes ad w.heap.size w) {a : Option Addr} {n c : Nat} {b : List UInt8} (ho : seqV w (.slice a n c) (bytesL b)) (hob : ∀ x, blk (.slice a n c) = some x → x < w.heap.size) (tr bd : Int) (ls : Bool) :
    Calls Tryd.prog 6 #[.int .i64 tr, .int .i64 bd, .bool ls, .slice a n c] w (BoolNew true w) := by
  have hn : n = b.length := by have := ho.len; simpa [bytesL] using this.symm
  have HE := Lib.hid hE
  have HO := Lib.hid ho
  have HOB := Lib.hid hob
  obtain ⟨i0, hi0, hz0, hz1, hz2⟩ := info_parts info_int
  have HM := Lib.hid trivial
  clear hE ho hob
  by_cases hlen : n ≤ 100
  · have HN := Lib.hid hn
    clear hn
    cases ls
    · skip
      go_enter Tryd.func6, Tryd.ntmps6
      go_wp2_with (first
        | (go_at_call 33; refine (first12_any HE.out (by decide) (by decide) (Nat.le_refl _)).mono ?_; rintro e w1 ⟨rfl, hb1⟩; have Hb1 := Lib.hid hb1; clear hb1)
        | (go_at_call 34; clear HM; refine (number_lit _ _ (by decide) _).mono ?_; rintro e w' ⟨r, hr, rfl, rfl⟩)
        | (go_at_call 34; refine (number_lit _ _ (by decide) _).mono ?_; rintro e w' ⟨bad, hbad, rfl, rfl⟩)
        | (go_at_call 21; refine (new_any (B := w.heap.size) Hb1.out.size).mono ?_; rintro e w2 ⟨p, fp, rfl, hst, hb2, hfp⟩; have Hst := Lib.hid hst; have Hb2 := Lib.hid (Hb1.out.trans (hb2.mono Hb1.out.size)); clear hst hb2 hfp)
        | (go_at_call 35; refine (clNew_int (tries := r + 1) (by omega) (by omega) (by omega)).mono ?_; rintro e w3 hn; have Hn := Lib.hid (clNew_at Hst.out Hb2.out.size hn); have Hb3 := Lib.hid (Hb2.out.trans ((clNew_at Hst.out Hb2.out.size hn).2.mono Hb2.out.size)); obtain ⟨rfl, hw⟩ := hn; clear hw))
      have hinv : CeInv 1 w.heap.size w w2.heap.size p (r + 1) 0 w3 := ⟨⟨_, _, _, Hn.out.1, rfl, ⟨fun n b h => by simp [St.empty] at h, fun i u h => by simp [St.empty] at h⟩, rfl, rfl, rfl⟩, Hb3.out⟩
      have HI := Lib.hid hinv
      clear hinv
      go_loopw [14] (fun i wr => ∃ k : Nat, k ≤ bad ∧ i = .int .i64 k ∧ CeInv 1 w.heap.size w w2.heap.size p (r + 1) k wr) (fun i _ => bad - (intOf i).toNat)
      case atStart => exact ⟨0, Nat.zero_le _, rfl, HI.out⟩
      case round =>
        obtain ⟨k, hk, rfl, hinv⟩ := hrel
        obtain ⟨⟨st, fp4, dt4, hcl4, hsc, hsm, hca, hfa, hno⟩, hbel⟩ := hinv
        have HC := Lib.hid hcl4
        have Hsc := Lib.hid hsc
        have Hsm := Lib.hid hsm
        have Hca := Lib.hid hca
        have Hfa := Lib.hid hfa
        have Hno := Lib.hid hno
        have Hbel := Lib.hid hbel
        clear hcl4 hsc hsm hca hfa hno hbel
        by_cases hkb : k < bad
        · go_wp2_with (first
            | (refine wpList_buildSeq rfl _ _ _ rfl Tryd.underlying22 hi0 hz0 hz1 (intsL [1]) rfl (fun u hu => by simp [intsL] at hu; subst hu; rfl) rfl (by decide) (by decide) ?_)
            | (go_at_call 22; refine (script_any (outs := [1]) (HC.out.store.keep ((Keeps.refl (fun _ => False) wr).alloc _) (fun _ _ => id)) (seqV_lit wr _ _ 1 (0, 0) rfl) (by rw [Hsc.out]; simp; omega)).mono ?_; rintro e w5 ⟨rfl, fp5, ht5⟩; have Ht5 := Lib.hid (HC.out.turned (StTurned.from ((Keeps.refl (fun _ => False) wr).alloc _) ht5)); clear ht5))
          go_roundw
          case rel => exact ⟨k + 1, by omega, by go_num, ⟨⟨_, _, _, Ht5.out.at_, by simp only []; rw [Hsc.out]; exact List.replicate_succ'.symm, Hsm.out, Hca.out, Hfa.out, Hno.out⟩, Hbel.out.trans (Ht5.out.below HC.out Hbel.out.size)⟩⟩
          case measure => simp [intOf]; omega
        · have hkb' : k = bad := by omega
          subst hkb'
          have hx := again_ends (n := ⟨#[111]⟩) (b := b) (out := 1) (by decide) o_valid (by have := HN.out; omega) (r + 1) k st Hsc.out Hsm.out
          have HX := Lib.hid hx
          clear hx
          by_cases hlt : k < r + 1
          · skip
            have hcnt : (0 : Int) + ((st.again (St.put1 ⟨#[111]⟩ b) (r + 1)).2.2.1 : Int) = ((k : Int) + 1) := by rw [HX.out.count]; omega
            have Hcnt := Lib.hid hcnt
            clear hcnt
            go_wp2_with (first
              | (go_at_call 36; refine (clPut_any (n := ⟨#[111]⟩) (b := b) HC.out (HE.out.below Hbel.out) (by decide) (by decide) Hbel.out.size (by omega) (by decide) (by rw [Hca.out]; decide) (by rw [Hfa.out]; decide) (HO.out.below Hbel.out HOB.out) (fun x hx => ⟨fun hf => by have := HC.out.store.ge x hf; have := HOB.out x hx; omega, by have := HC.out.ge; have := HOB.out x hx; omega, Nat.lt_of_lt_of_le (HOB.out x hx) Hbel.out.size⟩) (by have := HN.out; omega)).mono ?_; rintro e w5 ⟨rfl, fp5, dt5, ht5⟩; rw [HX.out.code, if_pos hlt, errV_zero]; have Ht5 := Lib.hid ht5; have Hb5 := Lib.hid (Hbel.out.trans (ht5.below HC.out Hbel.out.size)); clear ht5)
              | (go_at_call 24; refine (bytes_any Ht5.out.at_.store HX.out.small ⟨#[111]⟩).mono ?_; rw [HX.out.get, if_pos (.inl hlt)]; rintro e w6 ⟨v6, rfl, hv6, hb6, _⟩; have Hv6 := Lib.hid hv6; have Hb56 := Lib.hid hb6; have Hb6 := Lib.hid (Hb5.out.trans (hb6.mono Hb5.out.size)); clear hv6 hb6)
              | (go_at_call 37; refine (asked_any (Ht5.out.at_.keep (Keeps.of_below Hb56.out (fun _ => False)) (fun _ _ => id) id)).mono ?_; rw [Hcnt.out]; rintro e w8 ⟨rfl, rfl⟩)
              | (go_at_call 38; refine (sameBytes_any (l := b) Hv6.out.seq (HO.out.below Hb6.out HOB.out) (by have := HN.out; omega)).mono ?_; rintro e w9 ⟨rfl, hb9⟩; have Hb9 := Lib.hid (Hb6.out.trans (hb9.mono Hb6.out.size)); clear hb9))
            go_ret
            exact ⟨rfl, Hb9.out⟩
          · skip
            have hcnt : (0 : Int) + ((st.again (St.put1 ⟨#[111]⟩ b) (r + 1)).2.2.1 : Int) = ((r : Int) + 1) := by rw [HX.out.count]; omega
            have Hcnt := Lib.hid hcnt
            clear hcnt
            go_wp2_with (first
              | (go_at_call 36; refine (clPut_any (n := ⟨#[111]⟩) (b := b) HC.out (HE.out.below Hbel.out) (by decide) (by decide) Hbel.out.size (by omega) (by decide) (by rw [Hca.out]; decide) (by rw [Hfa.out]; decide) (HO.out.below Hbel.out HOB.out) (fun x hx => ⟨fun hf => by have := HC.out.store.ge x hf; have := HOB.out x hx; omega, by have := HC.out.ge; have := HOB.out x hx; omega, Nat.lt_of_lt_of_le (HOB.out x hx) Hbel.out.size⟩) (by have := HN.out; omega)).mono ?_; rintro e w5 ⟨rfl, fp5, dt5, ht5⟩; rw [HX.out.code, if_neg hlt, errV_pos ad (c := 111) (by decide)]; have Ht5 := Lib.hid ht5; have Hb5 := Lib.hid (Hbel.out.trans (ht5.below HC.out Hbel.out.size)); clear ht5)
              | (go_at_call 24; refine (bytes_any Ht5.out.at_.store HX.out.small ⟨#[111]⟩).mono ?_; rw [HX.out.get, if_neg (by omega), Hno.out]; rintro e w6 ⟨v6, rfl, hv6, hb6, _⟩; have Hv6 := Lib.hid hv6; have Hb56 := Lib.hid hb6; have Hb6 := Lib.hid (Hb5.out.trans (hb6.mono Hb5.out.size)); clear hv6 hb6)
              | (go_at_call 25; have hI := is_any (d := 111) (HE.out.below Hb6.out) Hb6.out.size (by decide) 111; rw [errV_pos ad (c := 111) (by decide)] at hI; refine hI.mono ?_; rintro e w7 ⟨rfl, hb7⟩; clear hI; have Hb67 := Lib.hid hb7; have Hb7 := Lib.hid (Hb6.out.trans (hb7.mono Hb6.out.size)); clear hb7)
              | (go_at_call 37; refine (asked_any (Ht5.out.at_.keep (Keeps.of_below ((Hb56.out.trans (Hb67.out.mono Hb56.out.size))) (fun _ => False)) (fun _ _ => id) id)).mono ?_; rw [Hcnt.out]; rintro e w8 ⟨rfl, rfl⟩))
            go_ret
            exact ⟨rfl, Hb7.out⟩
    · skip
      go_enter Tryd.func6, Tryd.ntmps6
      go_wp2_with (first
        | (go_at_call 33; refine (first12_any HE.out (by decide) (by decide) (Nat.le_refl _)).mono ?_; rintro e w1 ⟨rfl, hb1⟩; have Hb1 := Lib.hid hb1; clear hb1)
        | (go_at_call 34; clear HM; refine (number_lit _ _ (by decide) _).mono ?_; rintro e w' ⟨r, hr, rfl, rfl⟩)
        | (go_at_call 34; refine (number_lit _ _ (by decide) _).mono ?_; rintro e w' ⟨bad, hbad, rfl, rfl⟩)
        | (go_at_call 21; refine (new_any (B := w.heap.size) Hb1.out.size).mono ?_; rintro e w2 ⟨p, fp, rfl, hst, hb2, hfp⟩; have Hst := Lib.hid hst; have Hb2 := Lib.hid (Hb1.out.trans (hb2.mono Hb1.out.size)); clear hst hb2 hfp)
        | (go_at_call 35; refine (clNew_int (tries := r + 1) (by omega) (by omega) (by omega)).mono ?_; rintro e w3 hn; have Hn := Lib.hid (clNew_at Hst.out Hb2.out.size hn); have Hb3 := Lib.hid (Hb2.out.trans ((clNew_at Hst.out Hb2.out.size hn).2.mono Hb2.out.size)); obtain ⟨rfl, hw⟩ := hn; clear hw))
      have hinv : CeInv 2 w.heap.size w w2.heap.size p (r + 1) 0 w3 := ⟨⟨_, _, _, Hn.out.1, rfl, ⟨fun n b h => by simp [St.empty] at h, fun i u h => by simp [St.empty] at h⟩, rfl, rfl, rfl⟩, Hb3.out⟩
      have HI := Lib.hid hinv
      clear hinv
      go_loopw [14] (fun i wr => ∃ k : Nat, k ≤ bad ∧ i = .int .i64 k ∧ CeInv 2 w.heap.size w w2.heap.size p (r + 1) k wr) (fun i _ => bad - (intOf i).toNat)
      case atStart => exact ⟨0, Nat.zero_le _, rfl, HI.out⟩
      case round =>
        obtain ⟨k, hk, rfl, hinv⟩ := hrel
        obtain ⟨⟨st, fp4, dt4, hcl4, hsc, hsm, hca, hfa, hno⟩, hbel⟩ := hinv
        have HC := Lib.hid hcl4
        have Hsc := Lib.hid hsc
        have Hsm := Lib.hid hsm
        have Hca := Lib.hid hca
        have Hfa := Lib.hid hfa
        have Hno := Lib.hid hno
        have Hbel := Lib.hid hbel
        clear hcl4 hsc hsm hca hfa hno hbel
        by_cases hkb : k < bad
        · go_wp2_with (first
            | (refine wpList_buildSeq rfl _ _ _ rfl Tryd.underlying22 hi0 hz0 hz1 (intsL [2]) rfl (fun u hu => by simp [intsL] at hu; subst hu; rfl) rfl (by decide) (by decide) ?_)
            | (go_at_call 22; refine (script_any (outs := [2]) (HC.out.store.keep ((Keeps.refl (fun _ => False) wr).alloc _) (fun _ _ => id)) (seqV_lit wr _ _ 1 (0, 0) rfl) (by rw [Hsc.out]; simp; omega)).mono ?_; rintro e w5 ⟨rfl, fp5, ht5⟩; have Ht5 := Lib.hid (HC.out.turned (StTurned.from ((Keeps.refl (fun _ => False) wr).alloc _) ht5)); clear ht5))
          go_roundw
          case rel => exact ⟨k + 1, by omega, by go_num, ⟨⟨_, _, _, Ht5.out.at_, by simp only []; rw [Hsc.out]; exact List.replicate_succ'.symm, Hsm.out, Hca.out, Hfa.out, Hno.out⟩, Hbel.out.trans (Ht5.out.below HC.out Hbel.out.size)⟩⟩
          case measure => simp [intOf]; omega
        · have hkb' : k = bad := by omega
          subst hkb'
          have hx := again_ends (n := ⟨#[111]⟩) (b := b) (out := 2) (by decide) o_valid (by have := HN.out; omega) (r + 1) k st Hsc.out Hsm.out
          have HX := Lib.hid hx
          clear hx
          by_cases hlt : k < r + 1
          · skip
            have hcnt : (0 : Int) + ((st.again (St.put1 ⟨#[111]⟩ b) (r + 1)).2.2.1 : Int) = ((k : Int) + 1) := by rw [HX.out.count]; omega
            have Hcnt := Lib.hid hcnt
            clear hcnt
            go_wp2_with (first
              | (go_at_call 36; refine (clPut_any (n := ⟨#[111]⟩) (b := b) HC.out (HE.out.below Hbel.out) (by decide) (by decide) Hbel.out.size (by omega) (by decide) (by rw [Hca.out]; decide) (by rw [Hfa.out]; decide) (HO.out.below Hbel.out HOB.out) (fun x hx => ⟨fun hf => by have := HC.out.store.ge x hf; have := HOB.out x hx; omega, by have := HC.out.ge; have := HOB.out x hx; omega, Nat.lt_of_lt_of_le (HOB.out x hx) Hbel.out.size⟩) (by have := HN.out; omega)).mono ?_; rintro e w5 ⟨rfl, fp5, dt5, ht5⟩; rw [HX.out.code, if_pos hlt, errV_zero]; have Ht5 := Lib.hid ht5; have Hb5 := Lib.hid (Hbel.out.trans (ht5.below HC.out Hbel.out.size)); clear ht5)
              | (go_at_call 24; refine (bytes_any Ht5.out.at_.store HX.out.small ⟨#[111]⟩).mono ?_; rw [HX.out.get, if_pos (.inl hlt)]; rintro e w6 ⟨v6, rfl, hv6, hb6, _⟩; have Hv6 := Lib.hid hv6; have Hb56 := Lib.hid hb6; have Hb6 := Lib.hid (Hb5.out.trans (hb6.mono Hb5.out.size)); clear hv6 hb6)
              | (go_at_call 37; refine (asked_any (Ht5.out.at_.keep (Keeps.of_below Hb56.out (fun _ => False)) (fun _ _ => id) id)).mono ?_; rw [Hcnt.out]; rintro e w8 ⟨rfl, rfl⟩)
              | (go_at_call 38; refine (sameBytes_any (l := b) Hv6.out.seq (HO.out.below Hb6.out HOB.out) (by have := HN.out; omega)).mono ?_; rintro e w9 ⟨rfl, hb9⟩; have Hb9 := Lib.hid (Hb6.out.trans (hb9.mono Hb6.out.size)); clear hb9))
            go_ret
            exact ⟨rfl, Hb9.out⟩
          · skip
            have hcnt : (0 : Int) + ((st.again (St.put1 ⟨#[111]⟩ b) (r + 1)).2.2.1 : Int) = ((r : Int) + 1) := by rw [HX.out.count]; omega
            have Hcnt := Lib.hid hcnt
            clear hcnt
            go_wp2_with (first
              | (go_at_call 36; refine (clPut_any (n := ⟨#[111]⟩) (b := b) HC.out (HE.out.below Hbel.out) (by decide) (by decide) Hbel.out.size (by omega) (by decide) (by rw [Hca.out]; decide) (by rw [Hfa.out]; decide) (HO.out.below Hbel.out HOB.out) (fun x hx => ⟨fun hf => by have := HC.out.store.ge x hf; have := HOB.out x hx; omega, by have := HC.out.ge; have := HOB.out x hx; omega, Nat.lt_of_lt_of_le (HOB.out x hx) Hbel.out.size⟩) (by have := HN.out; omega)).mono ?_; rintro e w5 ⟨rfl, fp5, dt5, ht5⟩; rw [HX.out.code, if_neg hlt, errV_pos ad (c := 111) (by decide)]; have Ht5 := Lib.hid ht5; have Hb5 := Lib.hid (Hbel.out.trans (ht5.below HC.out Hbel.out.size)); clear ht5)
              | (go_at_call 24; refine (bytes_any Ht5.out.at_.store HX.out.small ⟨#[111]⟩).mono ?_; rw [HX.out.get, if_pos (.inr ⟨rfl, Nat.succ_pos r⟩)]; rintro e w6 ⟨v6, rfl, hv6, hb6, _⟩; have Hv6 := Lib.hid hv6; have Hb56 := Lib.hid hb6; have Hb6 := Lib.hid (Hb5.out.trans (hb6.mono Hb5.out.size)); clear hv6 hb6)
              | (go_at_call 25; have hI := is_any (d := 111) (HE.out.below Hb6.out) Hb6.out.size (by decide) 111; rw [errV_pos ad (c := 111) (by decide)] at hI; refine hI.mono ?_; rintro e w7 ⟨rfl, hb7⟩; clear hI; have Hb67 := Lib.hid hb7; have Hb7 := Lib.hid (Hb6.out.trans (hb7.mono Hb6.out.size)); clear hb7)
              | (go_at_call 37; refine (asked_any (Ht5.out.at_.keep (Keeps.of_below ((Hb56.out.trans (Hb67.out.mono Hb56.out.size))) (fun _ => False)) (fun _ _ => id) id)).mono ?_; rw [Hcnt.out]; rintro e w8 ⟨rfl, rfl⟩)
              | (go_at_call 38; refine (sameBytes_any (l := b) (Hv6.out.seq.below Hb67.out Hv6.out.lt) (HO.out.below Hb7.out HOB.out) (by have := HN.out; omega)).mono ?_; rintro e w9 ⟨rfl, hb9⟩; have Hb9 := Lib.hid (Hb7.out.trans (hb9.mono Hb7.out.size)); clear hb9))
            go_ret
            exact ⟨rfl, Hb9.out⟩
  · go_enter Tryd.func6, Tryd.ntmps6
    go_wp2_with (first
      | (go_at_call 33; refine (first12_any HE.out (by decide) (by decide) (Nat.le_refl _)).mono ?_; rintro e w1 ⟨rfl, hb1⟩; have Hb1 := Lib.hid hb1; clear hb1)
      | (go_at_call 34; refine (number_lit _ _ (by decide) _).mono ?_; rintro e w' ⟨r, hr, rfl, rfl⟩))
    go_ret
    exact ⟨rfl, Hb1.out⟩
end Go.Proofs.YtjiigajekminaaaDoor
