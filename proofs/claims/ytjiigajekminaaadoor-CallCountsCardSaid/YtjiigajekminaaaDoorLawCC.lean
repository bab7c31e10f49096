/- CallCounts: the walk. -/
import Derived.Test.YtjiigajekminaaaDoorLawCE
import Derived.Deep.LoopGhost
namespace Go.Proofs.YtjiigajekminaaaDoor
open Go.RowKit

/-- How many of the outcomes ahead are bad ones, up to so many. -/
def scan : Nat → List Int → Nat
  | 0, _ => 0
  | _ + 1, [] => 0
  | t + 1, x :: r => if x = 1 ∨ x = 2 then scan t r + 1 else 0
theorem scan_nil (t : Nat) : scan t [] = 0 := by cases t <;> rfl
structure CountsAs (t : Nat) (st : St) (x : Bool × Nat × Nat × St) : Prop where
  code : x.2.1 = if scan t st.script = t then 111 else 0
  count : x.2.2.1 = if scan t st.script = t then t else scan t st.script + 1
  script : x.2.2.2.script = st.script.drop x.2.2.1
  calls : x.2.2.2.calls = st.calls + x.2.2.1
  failed : x.2.2.2.failed ≤ st.failed + x.2.2.1
theorem begin_failed (st : St) : st.begin.failed ≤ st.failed + 1 := by
  simp only [St.begin]; split <;> omega
theorem again_counts {n : ByteArray} {b : List UInt8} (hv : validB n.data.toList = true) : ∀ (t : Nat) (st : St), CountsAs t st (st.again (St.put1 n b) t)
  | 0, st => ⟨by simp [St.again, scan], by simp [St.again, scan], by simp [St.again], by simp [St.again], by simp [St.again]⟩
  | t + 1, st => by
    have hf := begin_failed st
    cases hsc : st.script with
    | nil =>
      have hn : st.next = 0 := by simp [St.next, hsc]
      have hr := run_put_ok (b := b) hv (st := st) (by omega)
      rw [if_neg (by omega)] at hr
      have e : st.again (St.put1 n b) (t + 1) = (false, 0, 1, { st.begin with objs := aput st.objs n b }) := by simp [St.again, hr]
      rw [e]
      exact ⟨by simp [hsc, scan], by simp [hsc, scan], by simp [hsc, St.begin], rfl, hf⟩
    | cons y r =>
      have hn : st.next = y := by simp [St.next, hsc]
      have hb1 : st.begin.script = r := by simp [St.begin, hsc]
      have hbc : st.begin.calls = st.calls + 1 := rfl
      by_cases h1 : y = 1
      · have hr := run_put_fails (n := n) (b := b) (st := st) (by omega)
        have ih := again_counts (b := b) hv t st.begin
        have e : st.again (St.put1 n b) (t + 1) = (true, (st.begin.again (St.put1 n b) t).2.1, (st.begin.again (St.put1 n b) t).2.2.1 + 1, (st.begin.again (St.put1 n b) t).2.2.2) := by simp [St.again, hr]
        have hS : scan (t + 1) st.script = scan t r + 1 := by simp [hsc, scan, h1]
        rw [e]
        obtain ⟨i1, i2, i3, i4, i5⟩ := ih
        rw [hb1] at i1 i2 i3
        refine ⟨?_, ?_, ?_, ?_, ?_⟩
        · show (st.begin.again (St.put1 n b) t).2.1 = _
          rw [i1, hS]; simp
        · show (st.begin.again (St.put1 n b) t).2.2.1 + 1 = _
          rw [i2, hS]; simp; split <;> rfl
        · show (st.begin.again (St.put1 n b) t).2.2.2.script = st.script.drop ((st.begin.again (St.put1 n b) t).2.2.1 + 1)
          rw [i3, hsc]; rfl
        · show (st.begin.again (St.put1 n b) t).2.2.2.calls = st.calls + ((st.begin.again (St.put1 n b) t).2.2.1 + 1)
          omega
        · show (st.begin.again (St.put1 n b) t).2.2.2.failed ≤ st.failed + ((st.begin.again (St.put1 n b) t).2.2.1 + 1)
          omega
      · have hr := run_put_ok (b := b) hv (st := st) (by omega)
        by_cases h2 : y = 2
        · rw [if_pos (by omega)] at hr
          have ih := again_counts (b := b) hv t { st.begin with objs := aput st.objs n b }
          have e : st.again (St.put1 n b) (t + 1) = (true, (St.again (St.put1 n b) t { st.begin with objs := aput st.objs n b }).2.1, (St.again (St.put1 n b) t { st.begin with objs := aput st.objs n b }).2.2.1 + 1, (St.again (St.put1 n b) t { st.begin with objs := aput st.objs n b }).2.2.2) := by simp [St.again, hr]
          have hS : scan (t + 1) st.script = scan t r + 1 := by simp [hsc, scan, h2]
          rw [e]
          obtain ⟨i1, i2, i3, i4, i5⟩ := ih
          generalize hx : St.again (St.put1 n b) t { st.begin with objs := aput st.objs n b } = x at *
          have i1' : x.2.1 = if scan t st.begin.script = t then 111 else 0 := i1
          have i2' : x.2.2.1 = if scan t st.begin.script = t then t else scan t st.begin.script + 1 := i2
          have i3' : x.2.2.2.script = st.begin.script.drop x.2.2.1 := i3
          rw [hb1] at i1' i2' i3'
          have i4' : x.2.2.2.calls = st.begin.calls + x.2.2.1 := i4
          have i5' : x.2.2.2.failed ≤ st.begin.failed + x.2.2.1 := i5
          refine ⟨?_, ?_, ?_, ?_, ?_⟩
          · show x.2.1 = _
            rw [i1', hS]; simp
          · show x.2.2.1 + 1 = _
            rw [i2', hS]; simp; split <;> rfl
          · show x.2.2.2.script = st.script.drop (x.2.2.1 + 1)
            rw [i3', hsc]; rfl
          · show x.2.2.2.calls = st.calls + (x.2.2.1 + 1)
            omega
          · show x.2.2.2.failed ≤ st.failed + (x.2.2.1 + 1)
            omega
        · rw [if_neg (by omega)] at hr
          have e : st.again (St.put1 n b) (t + 1) = (false, 0, 1, { st.begin with objs := aput st.objs n b }) := by simp [St.again, hr]
          rw [e]
          have hS : scan (t + 1) st.script = 0 := by simp [hsc, scan, h1, h2]
          exact ⟨by simp [hS], by simp [hS], by simp [hsc, St.begin], rfl, hf⟩

theorem scan_step {t i j S : Nat} {outs : List Int} {x : Int} (h : i + scan (t - i) (outs.drop j) = S) (hd : outs.drop j = x :: outs.drop (j + 1)) (hx : x = 1 ∨ x = 2) (hi : i < t) : (i + 1) + scan (t - (i + 1)) (outs.drop (j + 1)) = S := by
  obtain ⟨m, hm⟩ : ∃ m, t - i = m + 1 := ⟨t - i - 1, by omega⟩
  have hm' : t - (i + 1) = m := by omega
  rw [hm, hd] at h
  rw [hm']
  simp only [scan, hx, if_true] at h
  omega
theorem scan_stop {t i S : Nat} {l : List Int} (h : i + scan t l = S) (h0 : scan t l = 0) : S = i := by omega
theorem scan_other {t : Nat} {x : Int} {r : List Int} (h1 : ¬ x = 1) (h2 : ¬ x = 2) : scan t (x :: r) = 0 := by
  cases t with
  | zero => rfl
  | succ t => simp [scan, h1, h2]
/-- Behind some of the Puts. -/
structure CcInv (outs : List Int) (B : Nat) (w0 : World) (q p tries : Nat) (A C : Nat) (w : World) : Prop where
  body : ∃ st fp dt, ClAt B w q p tries (C : Int) st fp dt ∧ st.script = outs.drop A ∧ st.calls = C ∧ st.failed ≤ C
  below : Below B w0 w
theorem ccAt {B : Nat} {w : World} {q p : Nat} {t a b c : Int} {st : St} {fp dt : List Nat} (h1 : a = b) (h2 : b = c) (h : ClAt B w q p t a st fp dt) : ClAt B w q p t c st fp dt := by
  subst h1; subst h2; exact h
theorem x_valid : validB (⟨#[120]⟩ : ByteArray).data.toList = true := by decide +kernel

set_option maxHeartbeats 2000000 in
set_option maxRecDepth 100000 in
theorem callCounts_walk {L : List Nat} {ad : Nat → Addr} {w : World} (hE : Errs L ad w.heap.size w) (h106 : 106 ∈ L) (h111 : 111 ∈ L) {a : Option Addr} {n c : Nat} {outs : List Int} (ho : seqV w (.slice a n c) (intsL outs)) (hob : ∀ x, blk (.slice a n c) = some x → x < w.heap.size) (tr : Int) :
    Calls Tryd.prog 5 #[.int .i64 tr, .slice a n c] w (BoolNew true w) := by
  have hn : n = outs.length := by have := ho.len; simpa [intsL] using this.symm
  have HE := Lib.hid hE
  have HO := Lib.hid ho
  have HOB := Lib.hid hob
  clear hE ho hob
  by_cases hlen : n ≤ 20
  · have HN := Lib.hid hn
    clear hn
    go_enter Tryd.func5, Tryd.ntmps5
    go_wp2_with (first
      | (go_at_call 33; refine (first12_any HE.out h106 h111 (Nat.le_refl _)).mono ?_; rintro e w1 ⟨rfl, hb1⟩; have Hb1 := Lib.hid hb1; clear hb1)
      | (go_at_call 34; refine (number_lit _ _ (by decide) _).mono ?_; rintro e w' ⟨r, hr, rfl, rfl⟩)
      | (go_at_call 21; refine (new_any (B := w.heap.size) Hb1.out.size).mono ?_; rintro e w2 ⟨p, fp, rfl, hst, hb2, hfp⟩; have Hst := Lib.hid hst; have Hb2 := Lib.hid (Hb1.out.trans (hb2.mono Hb1.out.size)); clear hst hb2 hfp)
      | (go_at_call 35; refine (clNew_int (tries := r + 1) (by omega) (by omega) (by omega)).mono ?_; rintro e w3 hn; have Hn := Lib.hid (clNew_at Hst.out Hb2.out.size hn); have Hb3 := Lib.hid (Hb2.out.trans ((clNew_at Hst.out Hb2.out.size hn).2.mono Hb2.out.size)); obtain ⟨rfl, hw⟩ := hn; clear hw)
      | (go_at_call 22; refine (script_any (outs := outs) Hn.out.1.store (HO.out.below Hb3.out HOB.out) (by have := HN.out; simp [St.empty]; omega)).mono ?_; rintro e w5 ⟨rfl, fp5, ht5⟩; have Ht5 := Lib.hid (Hn.out.1.turned ht5); clear ht5))
    have hinv : CcInv outs w.heap.size w w2.heap.size p (r + 1) 0 0 w5 := ⟨⟨_, _, _, Ht5.out.at_, by simp [St.empty], rfl, Nat.le_refl _⟩, Hb3.out.trans (Ht5.out.below Hn.out.1 Hb3.out.size)⟩
    have HI := Lib.hid hinv
    clear hinv
    go_loopg [9, 10, 11] 25 (fun g at_ asked i wr => ∃ (k A C : Nat), g = 25 - k ∧ k ≤ 25 ∧ A ≤ 9 * k ∧ C ≤ 8 * k ∧ i = .int .i64 k ∧ at_ = .int .i64 A ∧ asked = .int .i64 C ∧ CcInv outs w.heap.size w w2.heap.size p (r + 1) A C wr)
    case atStart => exact ⟨0, 0, 0, rfl, by omega, by omega, by omega, rfl, rfl, rfl, HI.out⟩
    case round =>
      obtain ⟨k, A, C, hg, hk, hA, hC, rfl, rfl, rfl, hinv⟩ := hrel
      subst hg
      obtain ⟨⟨st, fp4, dt4, hcl4, hsc, hca, hfa⟩, hbel⟩ := hinv
      have HC := Lib.hid hcl4
      have Hsc := Lib.hid hsc
      have Hca := Lib.hid hca
      have Hfa := Lib.hid hfa
      have Hbel := Lib.hid hbel
      have HX := Lib.hid (again_counts (n := ⟨#[120]⟩) (b := []) x_valid (r + 1) st)
      clear hcl4 hsc hca hfa hbel
      by_cases hk25 : k < 25
      · go_wp2
        rw [show decide ((k : Int) < 25) = true from by simp; omega]
        go_loopg [9, 12] (r + 1) (fun g at_ m wi => wi = wr ∧ ∃ (j i : Nat), i ≤ r + 1 ∧ g = r + 1 - i ∧ at_ = .int .i64 j ∧ m = .int .i64 i ∧ Hid (j = A + i ∧ i + scan (r + 1 - i) (outs.drop j) = scan (r + 1) (outs.drop A)))
        case atStart => exact ⟨rfl, A, 0, by omega, rfl, rfl, rfl, Lib.hid ⟨rfl, by simp⟩⟩
        case round =>
          obtain ⟨rfl, j, i, hi, hgi, rfl, rfl, HJ⟩ := hrel
          subst hgi
          have hjb : j ≤ 300 := by have := HJ.out.1; omega
          by_cases hit : i < r + 1
          · by_cases hjl : j < n
            · obtain ⟨b, off, ha, hlt, hcell⟩ := HO.out.cell hjl
              subst ha
              obtain ⟨x, hx⟩ : ∃ x, outs[j]? = some x := ⟨outs[j]'(by have := HN.out; omega), List.getElem?_eq_getElem _⟩
              have cx : wr.cell? ⟨b, off + j, none⟩ = some (.int .i64 x) := by
                have hkl : j < (intsL outs).length := by have := HN.out; simp [intsL]; omega
                rw [Hbel.out.cell (p := ⟨b, off + j, none⟩) hlt, hcell j hkl]
                obtain ⟨hlt, rfl⟩ := List.getElem?_eq_some_iff.1 hx
                simp [intsL]
              have hd : outs.drop j = x :: outs.drop (j + 1) := by
                obtain ⟨hlt, rfl⟩ := List.getElem?_eq_some_iff.1 hx
                exact List.drop_eq_getElem_cons hlt
              have HD := Lib.hid hd
              clear hcell hx hd
              by_cases hx1 : x = 1
              · have HX1 := Lib.hid hx1
                have b1 : (x == 1) = true := by simp [hx1]
                clear hx1
                go_wp2
                go_roundg (r + 1 - (i + 1))
                case measure => omega
                case rel => exact ⟨rfl, j + 1, i + 1, by omega, rfl, by go_num, by go_num, Lib.hid ⟨by have := HJ.out.1; omega, scan_step HJ.out.2 HD.out (.inl HX1.out) hit⟩⟩
              · by_cases hx2 : x = 2
                · have HX2 := Lib.hid hx2
                  have b1 : (x == 1) = false := by simp [hx1]
                  have b2 : (x == 2) = true := by simp [hx2]
                  clear hx1 hx2
                  go_wp2
                  go_roundg (r + 1 - (i + 1))
                  case measure => omega
                  case rel => exact ⟨rfl, j + 1, i + 1, by omega, rfl, by go_num, by go_num, Lib.hid ⟨by have := HJ.out.1; omega, scan_step HJ.out.2 HD.out (.inr HX2.out) hit⟩⟩
                · have HXN := Lib.hid (And.intro hx1 hx2)
                  have b1 : (x == 1) = false := by simp [hx1]
                  have b2 : (x == 2) = false := by simp [hx2]
                  clear hx1 hx2
                  have hS : scan (r + 1) (outs.drop A) = i := scan_stop HJ.out.2 (by rw [HD.out]; exact scan_other HXN.out.1 HXN.out.2)
                  have HS := Lib.hid hS
                  clear hS
                  have b0 : ((i : Int) == (r : Int) + 1) = false := by simp; omega
                  have hcnt : (st.again (St.put1 ⟨#[120]⟩ []) (r + 1)).2.2.1 = i + 1 := by rw [HX.out.count, Hsc.out, HS.out, if_neg (by omega)]
                  have Hcnt := Lib.hid hcnt
                  have ha : (C : Int) + ((st.again (St.put1 ⟨#[120]⟩ []) (r + 1)).2.2.1 : Int) = (C : Int) + ((i : Int) + 1) := by rw [hcnt]; omega
                  have Ha := Lib.hid ha
                  have hc2 : (st.again (St.put1 ⟨#[120]⟩ []) (r + 1)).2.2.2.calls = C + (i + 1) := by rw [HX.out.calls, Hca.out, hcnt]
                  have Hc2 := Lib.hid hc2
                  clear hcnt ha hc2
                  go_wp2_with (first
                    | (go_at_call 36; refine (clPut_any (n := ⟨#[120]⟩) (b := []) HC.out (HE.out.below Hbel.out) h106 h111 Hbel.out.size (by omega) (by omega) (by rw [Hca.out]; omega) (by have := Hfa.out; omega) (seqV.nil _) (fun x hx => by cases hx) (by decide)).mono ?_; rintro e w5 ⟨rfl, fp5, dt5, ht5⟩; rw [HX.out.code, Hsc.out, HS.out, if_neg (by omega), errV_zero]; have Ht5 := Lib.hid ht5; have Hb5 := Lib.hid (Hbel.out.trans (ht5.below HC.out Hbel.out.size)); clear ht5)
                    | (go_at_call 37; refine (asked_any Ht5.out.at_).mono ?_; rw [Ha.out]; rintro e w8 ⟨rfl, rfl⟩)
                    | (go_at_call 26; refine (calls_any Ht5.out.at_.store).mono ?_; rw [Hc2.out]; rintro e w9 ⟨rfl, rfl⟩))
                  go_roundg (25 - (k + 1))
                  case measure => omega
                  case rel => exact ⟨k + 1, j + 1, C + (i + 1), by omega, by omega, by have := HJ.out.1; omega, by omega, by go_num, by go_num, by go_num, ⟨⟨_, _, _, ccAt Ha.out (by omega) Ht5.out.at_, by rw [HX.out.script, Hsc.out, Hcnt.out, List.drop_drop]; congr 1; have := HJ.out.1; omega, Hc2.out, by have := HX.out.failed; have := Hfa.out; have := Hcnt.out; omega⟩, Hb5.out⟩⟩
            · have hS : scan (r + 1) (outs.drop A) = i := scan_stop HJ.out.2 (by rw [List.drop_eq_nil_of_le (by have := HN.out; omega)]; exact scan_nil _)
              have HS := Lib.hid hS
              clear hS
              have b0 : ((i : Int) == (r : Int) + 1) = false := by simp; omega
              have hcnt : (st.again (St.put1 ⟨#[120]⟩ []) (r + 1)).2.2.1 = i + 1 := by rw [HX.out.count, Hsc.out, HS.out, if_neg (by omega)]
              have Hcnt := Lib.hid hcnt
              have ha : (C : Int) + ((st.again (St.put1 ⟨#[120]⟩ []) (r + 1)).2.2.1 : Int) = (C : Int) + ((i : Int) + 1) := by rw [hcnt]; omega
              have Ha := Lib.hid ha
              have hc2 : (st.again (St.put1 ⟨#[120]⟩ []) (r + 1)).2.2.2.calls = C + (i + 1) := by rw [HX.out.calls, Hca.out, hcnt]
              have Hc2 := Lib.hid hc2
              clear hcnt ha hc2
              go_wp2_with (first
                | (go_at_call 36; refine (clPut_any (n := ⟨#[120]⟩) (b := []) HC.out (HE.out.below Hbel.out) h106 h111 Hbel.out.size (by omega) (by omega) (by rw [Hca.out]; omega) (by have := Hfa.out; omega) (seqV.nil _) (fun x hx => by cases hx) (by decide)).mono ?_; rintro e w5 ⟨rfl, fp5, dt5, ht5⟩; rw [HX.out.code, Hsc.out, HS.out, if_neg (by omega), errV_zero]; have Ht5 := Lib.hid ht5; have Hb5 := Lib.hid (Hbel.out.trans (ht5.below HC.out Hbel.out.size)); clear ht5)
                | (go_at_call 37; refine (asked_any Ht5.out.at_).mono ?_; rw [Ha.out]; rintro e w8 ⟨rfl, rfl⟩)
                | (go_at_call 26; refine (calls_any Ht5.out.at_.store).mono ?_; rw [Hc2.out]; rintro e w9 ⟨rfl, rfl⟩))
              go_roundg (25 - (k + 1))
              case measure => omega
              case rel => exact ⟨k + 1, j + 1, C + (i + 1), by omega, by omega, by have := HJ.out.1; omega, by omega, by go_num, by go_num, by go_num, ⟨⟨_, _, _, ccAt Ha.out (by omega) Ht5.out.at_, by rw [HX.out.script, Hsc.out, Hcnt.out, List.drop_drop]; congr 1; have := HJ.out.1; omega, Hc2.out, by have := HX.out.failed; have := Hfa.out; have := Hcnt.out; omega⟩, Hb5.out⟩⟩
          · have hir : i = r + 1 := by omega
            have hS : scan (r + 1) (outs.drop A) = r + 1 := by rw [← HJ.out.2, hir]; simp [scan]
            have HS := Lib.hid hS
            clear hS
            subst hir
            have hcnt : (st.again (St.put1 ⟨#[120]⟩ []) (r + 1)).2.2.1 = r + 1 := by rw [HX.out.count, Hsc.out, HS.out, if_pos rfl]
            have Hcnt := Lib.hid hcnt
            have ha : (C : Int) + ((st.again (St.put1 ⟨#[120]⟩ []) (r + 1)).2.2.1 : Int) = (C : Int) + ((r + 1 : Nat) : Int) := by rw [hcnt]
            have Ha := Lib.hid ha
            have hc2 : (st.again (St.put1 ⟨#[120]⟩ []) (r + 1)).2.2.2.calls = C + (r + 1) := by rw [HX.out.calls, Hca.out, hcnt]
            have Hc2 := Lib.hid hc2
            clear hcnt ha hc2
            go_wp2_with (first
              | (go_at_call 36; refine (clPut_any (n := ⟨#[120]⟩) (b := []) HC.out (HE.out.below Hbel.out) h106 h111 Hbel.out.size (by omega) (by omega) (by rw [Hca.out]; omega) (by have := Hfa.out; omega) (seqV.nil _) (fun x hx => by cases hx) (by decide)).mono ?_; rintro e w5 ⟨rfl, fp5, dt5, ht5⟩; rw [HX.out.code, Hsc.out, HS.out, if_pos rfl, errV_pos ad (c := 111) (by decide)]; have Ht5 := Lib.hid ht5; have Hb5 := Lib.hid (Hbel.out.trans (ht5.below HC.out Hbel.out.size)); clear ht5)
              | (go_at_call 37; refine (asked_any Ht5.out.at_).mono ?_; rw [Ha.out]; rintro e w8 ⟨rfl, rfl⟩)
              | (go_at_call 26; refine (calls_any Ht5.out.at_.store).mono ?_; rw [Hc2.out]; rintro e w9 ⟨rfl, rfl⟩))
            go_roundg (25 - (k + 1))
            case measure => omega
            case rel => exact ⟨k + 1, j, C + (r + 1), by omega, by omega, by have := HJ.out.1; omega, by omega, by go_num, rfl, by go_num, ⟨⟨_, _, _, ccAt Ha.out (by omega) Ht5.out.at_, by rw [HX.out.script, Hsc.out, Hcnt.out, List.drop_drop]; congr 1; have := HJ.out.1; omega, Hc2.out, by have := HX.out.failed; have := Hfa.out; have := Hcnt.out; omega⟩, Hb5.out⟩⟩
      · have hk' : k = 25 := by omega
        subst hk'
        go_wp2
        go_ret
        exact ⟨rfl, Hbel.out⟩
  · go_enter Tryd.func5, Tryd.ntmps5
    go_wp2_with (first
      | (go_at_call 33; refine (first12_any HE.out h106 h111 (Nat.le_refl _)).mono ?_; rintro e w1 ⟨rfl, hb1⟩; have Hb1 := Lib.hid hb1; clear hb1)
      | (go_at_call 34; refine (number_lit _ _ (by decide) _).mono ?_; rintro e w' ⟨r, hr, rfl, rfl⟩))
    go_ret
    exact ⟨rfl, Hb1.out⟩
end Go.Proofs.YtjiigajekminaaaDoor
