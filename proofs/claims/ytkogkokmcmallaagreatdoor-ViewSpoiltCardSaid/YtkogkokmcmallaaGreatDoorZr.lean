/- cordwoodref1.ValidName: the document's names are the program's. The document's sum (cordwoodref1.More, Sum): bit by bit. -/
import Derived.Test.YtkogkokmcmallaaGreatDoorZa
import Derived.Test.YtkogkokmcmallaaGreatDoorZe
namespace Go.Proofs.YtkogkokmcmallaaGreatDoor
set_option linter.all false
open Go.RowKit

set_option maxHeartbeats 800000 in
set_option maxRecDepth 100000 in
theorem refValid_any (s : ByteArray) (w : World) :
    Calls Tryz.prog 148 #[.string s] w fun e w' => e = .returned (.bool (validB s.data.toList)) ∧ w = w' := by
  by_cases h : 1 ≤ s.size
  · by_cases h2 : s.size ≤ 64
    · go_enter Tryz.func148, Tryz.ntmps148
      go_wp2
      go_loop [3] (fun i => ∃ k : Nat, k ≤ s.size ∧ i = .int .i64 k ∧ (s.data.toList.take k).all (fun c => nameC c.toNat) = true) (fun i => s.size - (intOf i).toNat)
      case atStart => exact ⟨0, Nat.zero_le _, rfl, rfl⟩
      case round =>
        obtain ⟨k, hk, rfl, hall⟩ := hrel
        have Hall := Lib.hid hall
        clear hall
        by_cases hlt : k < s.size
        · have hstep := all_take_snoc s k hlt (fun c => nameC c.toNat)
          have Hs := Lib.hid hstep
          clear hstep
          have hkl : k < s.data.toList.length := by simpa using hlt
          have hget : s.data.toList[k] = s[k] := by rw [Array.getElem_toList]; rfl
          have Hg := Lib.hid hget
          clear hget
          have hgo : nameC (s[k].toNat : Int) = true → ((s.data.toList.take (k + 1)).all fun c => nameC c.toNat) = true := fun h => by rw [Hs.out, Hall.out, h]; rfl
          have hno : nameC (s[k].toNat : Int) = false → validB s.data.toList = false := fun h => by
            have := all_false_of (p := fun c => nameC c.toNat) hkl (by rw [Hg.out]; exact h)
            simp [validB, this]
          rcases (by omega : (97 ≤ s[k].toNat ∧ s[k].toNat ≤ 122) ∨ (48 ≤ s[k].toNat ∧ s[k].toNat ≤ 57) ∨ (s[k].toNat = 46) ∨ (s[k].toNat = 45) ∨ (s[k].toNat = 95) ∨ ((s[k].toNat < 48 ∧ s[k].toNat ≠ 46 ∧ s[k].toNat ≠ 45)) ∨ ((57 < s[k].toNat ∧ s[k].toNat < 97 ∧ s[k].toNat ≠ 95)) ∨ (122 < s[k].toNat)) with hc | hc | hc | hc | hc | hc | hc | hc
          · have b46 : ((s[k].toNat : Int) != 46) = true := by rw [bne_iff_ne]; omega
            have b45 : ((s[k].toNat : Int) != 45) = true := by rw [bne_iff_ne]; omega
            have b95 : ((s[k].toNat : Int) != 95) = true := by rw [bne_iff_ne]; omega
            have hn : nameC (s[k].toNat : Int) = true := by simp [nameC, smallB]; omega
            have h1 := hgo hn
            clear hgo hno hn
            have H1 := Lib.hid h1
            clear h1
            have q0 : (97 : Int) ≤ (s[k].toNat : Int) := by omega
            have q1 : (s[k].toNat : Int) ≤ 122 := by omega
            clear hc
            go_wp2
            go_round
            case rel => exact ⟨k + 1, by omega, by go_num, H1.out⟩
            case measure => simp [intOf]; omega
          · have b46 : ((s[k].toNat : Int) != 46) = true := by rw [bne_iff_ne]; omega
            have b45 : ((s[k].toNat : Int) != 45) = true := by rw [bne_iff_ne]; omega
            have b95 : ((s[k].toNat : Int) != 95) = true := by rw [bne_iff_ne]; omega
            have hn : nameC (s[k].toNat : Int) = true := by simp [nameC, smallB]; omega
            have h1 := hgo hn
            clear hgo hno hn
            have H1 := Lib.hid h1
            clear h1
            have q0 : (48 : Int) ≤ (s[k].toNat : Int) := by omega
            have q1 : (s[k].toNat : Int) ≤ 57 := by omega
            clear hc
            go_wp2
            go_round
            case rel => exact ⟨k + 1, by omega, by go_num, H1.out⟩
            case measure => simp [intOf]; omega
          · have b46 : ((s[k].toNat : Int) != 46) = false := by rw [bne_eq_false_iff_eq]; omega
            have b45 : ((s[k].toNat : Int) != 45) = true := by rw [bne_iff_ne]; omega
            have b95 : ((s[k].toNat : Int) != 95) = true := by rw [bne_iff_ne]; omega
            have hn : nameC (s[k].toNat : Int) = true := by simp [nameC, smallB]; omega
            have h1 := hgo hn
            clear hgo hno hn
            have H1 := Lib.hid h1
            clear h1
            have q0 : (0 : Int) ≤ (s[k].toNat : Int) := by omega
            have q1 : (s[k].toNat : Int) < 48 := by omega
            clear hc
            go_wp2
            go_round
            case rel => exact ⟨k + 1, by omega, by go_num, H1.out⟩
            case measure => simp [intOf]; omega
          · have b46 : ((s[k].toNat : Int) != 46) = true := by rw [bne_iff_ne]; omega
            have b45 : ((s[k].toNat : Int) != 45) = false := by rw [bne_eq_false_iff_eq]; omega
            have b95 : ((s[k].toNat : Int) != 95) = true := by rw [bne_iff_ne]; omega
            have hn : nameC (s[k].toNat : Int) = true := by simp [nameC, smallB]; omega
            have h1 := hgo hn
            clear hgo hno hn
            have H1 := Lib.hid h1
            clear h1
            have q0 : (0 : Int) ≤ (s[k].toNat : Int) := by omega
            have q1 : (s[k].toNat : Int) < 48 := by omega
            clear hc
            go_wp2
            go_round
            case rel => exact ⟨k + 1, by omega, by go_num, H1.out⟩
            case measure => simp [intOf]; omega
          · have b46 : ((s[k].toNat : Int) != 46) = true := by rw [bne_iff_ne]; omega
            have b45 : ((s[k].toNat : Int) != 45) = true := by rw [bne_iff_ne]; omega
            have b95 : ((s[k].toNat : Int) != 95) = false := by rw [bne_eq_false_iff_eq]; omega
            have hn : nameC (s[k].toNat : Int) = true := by simp [nameC, smallB]; omega
            have h1 := hgo hn
            clear hgo hno hn
            have H1 := Lib.hid h1
            clear h1
            have q0 : (57 : Int) < (s[k].toNat : Int) := by omega
            have q1 : (s[k].toNat : Int) < 97 := by omega
            clear hc
            go_wp2
            go_round
            case rel => exact ⟨k + 1, by omega, by go_num, H1.out⟩
            case measure => simp [intOf]; omega
          · have b46 : ((s[k].toNat : Int) != 46) = true := by rw [bne_iff_ne]; omega
            have b45 : ((s[k].toNat : Int) != 45) = true := by rw [bne_iff_ne]; omega
            have b95 : ((s[k].toNat : Int) != 95) = true := by rw [bne_iff_ne]; omega
            have hn : nameC (s[k].toNat : Int) = false := by simp [nameC, smallB]; omega
            have h1 := hno hn
            clear hgo hno hn
            have H1 := Lib.hid h1
            clear h1
            have q0 : (0 : Int) ≤ (s[k].toNat : Int) := by omega
            have q1 : (s[k].toNat : Int) < 48 := by omega
            clear hc
            go_wp2
            go_ret
            exact ⟨ret_bool H1.out.symm, rfl⟩
          · have b46 : ((s[k].toNat : Int) != 46) = true := by rw [bne_iff_ne]; omega
            have b45 : ((s[k].toNat : Int) != 45) = true := by rw [bne_iff_ne]; omega
            have b95 : ((s[k].toNat : Int) != 95) = true := by rw [bne_iff_ne]; omega
            have hn : nameC (s[k].toNat : Int) = false := by simp [nameC, smallB]; omega
            have h1 := hno hn
            clear hgo hno hn
            have H1 := Lib.hid h1
            clear h1
            have q0 : (57 : Int) < (s[k].toNat : Int) := by omega
            have q1 : (s[k].toNat : Int) < 97 := by omega
            clear hc
            go_wp2
            go_ret
            exact ⟨ret_bool H1.out.symm, rfl⟩
          · have b46 : ((s[k].toNat : Int) != 46) = true := by rw [bne_iff_ne]; omega
            have b45 : ((s[k].toNat : Int) != 45) = true := by rw [bne_iff_ne]; omega
            have b95 : ((s[k].toNat : Int) != 95) = true := by rw [bne_iff_ne]; omega
            have hn : nameC (s[k].toNat : Int) = false := by simp [nameC, smallB]; omega
            have h1 := hno hn
            clear hgo hno hn
            have H1 := Lib.hid h1
            clear h1
            have q0 : (122 : Int) < (s[k].toNat : Int) := by omega
            clear hc
            go_wp2
            go_ret
            exact ⟨ret_bool H1.out.symm, rfl⟩
        · have hk' : k = s.size := by omega
          subst hk'
          have hv : validB s.data.toList = true := by
            have := Hall.out
            rw [List.take_of_length_le (by simp)] at this
            simp only [validB, this, Bool.and_true, Bool.and_eq_true, decide_eq_true_eq]
            exact ⟨by simpa using h, by simpa using h2⟩
          have Hv := Lib.hid hv
          clear hv
          go_wp2
          go_ret
          exact ⟨ret_bool Hv.out.symm, rfl⟩
    · have hv : validB s.data.toList = false := by simp [validB]; omega
      have Hv := Lib.hid hv
      clear hv
      go_enter Tryz.func148, Tryz.ntmps148
      go_wp2
      go_ret
      exact ⟨ret_bool Hv.out.symm, rfl⟩
  · have hv : validB s.data.toList = false := by simp [validB]; omega
    have Hv := Lib.hid hv
    clear hv
    go_enter Tryz.func148, Tryz.ntmps148
    go_wp2
    go_ret
    exact ⟨ret_bool Hv.out.symm, rfl⟩
end Go.Proofs.YtkogkokmcmallaaGreatDoor
namespace Go.Proofs.YtkogkokmcmallaaGreatDoor
set_option linter.all false
open Go.RowKit

theorem odd_bits {v : Nat} (hv : v < 4294967296) (h : v % 2 = 1) : bits .and .u32 (v : Int) 1 = 1 ∧ bits .xor .u32 ((v : Int) / 2) 2197175160 = ((crcStep v : Nat) : Int) := by
  have e1 : bits .and .u32 (v : Int) 1 = ((v % 2 : Nat) : Int) := by
    have := bits_and_u32_nat v 1 hv (by decide)
    rw [show ((1 : Nat) : Int) = 1 from rfl] at this
    rw [this, show v &&& 1 = v % 2 from Nat.and_two_pow_sub_one_eq_mod v 1]
  refine ⟨by rw [e1, h]; rfl, ?_⟩
  have := bits_xor_u32_nat (v / 2) 2197175160 (by omega) (by decide)
  rw [show ((v : Int) / 2) = ((v / 2 : Nat) : Int) by omega, show (2197175160 : Int) = ((2197175160 : Nat) : Int) from rfl, this]
  unfold crcStep
  rw [if_pos h]
theorem even_bits {v : Nat} (hv : v < 4294967296) (h : v % 2 = 0) : bits .and .u32 (v : Int) 1 = 0 ∧ (v : Int) / 2 = ((crcStep v : Nat) : Int) := by
  have e1 : bits .and .u32 (v : Int) 1 = ((v % 2 : Nat) : Int) := by
    have := bits_and_u32_nat v 1 hv (by decide)
    rw [show ((1 : Nat) : Int) = 1 from rfl] at this
    rw [this, show v &&& 1 = v % 2 from Nat.and_two_pow_sub_one_eq_mod v 1]
  refine ⟨by rw [e1, h]; rfl, ?_⟩
  unfold crcStep
  rw [if_neg (by omega), Nat.xor_zero]
  omega

set_option maxRecDepth 100000 in
theorem refMore_any {w : World} {b : Value} {l : List UInt8} {s : Nat} (hs : s < 4294967296) (hb : seqV w b (bytesL l)) (hlen : l.length ≤ 1073741824) :
    Calls Tryz.prog 222 #[.int .u32 (s : Int), b] w fun e w' => e = .returned (.int .u32 ((crcMore s l : Nat) : Int)) ∧ w = w' := by
  have HB := Lib.hid hb
  obtain ⟨a, n, c, rfl, hal, ha2⟩ := id hb
  have hal' : n = l.length := by simpa [bytesL] using hal
  clear hal
  subst hal'
  clear hb ha2
  go_enter Tryz.func222, Tryz.ntmps222
  go_wp2
  go_loopg [5, 6] l.length (fun g x i wr => wr = w ∧ ∃ k : Nat, g = l.length - k ∧ k ≤ l.length ∧ i = .int .i64 k ∧ x = .int .u32 ((crcRun (4294967295 ^^^ s) (l.take k) : Nat) : Int))
  case atStart => exact ⟨rfl, 0, rfl, Nat.zero_le _, rfl, by rw [not_u32 _ hs]; rfl⟩
  case round =>
    obtain ⟨rfl, k, hg, hk, rfl, rfl⟩ := hrel
    subst hg
    by_cases hkl : k < l.length
    · obtain ⟨bb, off, rfl, lt, hc⟩ := HB.out.cell hkl
      have hk' : k < (bytesL l).length := by simpa [bytesL] using hkl
      have cx := hc k hk'
      obtain ⟨x, hlx, hx⟩ := oneU8c l (List.getElem?_eq_getElem hk')
      rw [hx] at cx
      clear hc hx hk'
      have hlt : crcRun (4294967295 ^^^ s) (l.take k) < 4294967296 := crcRun_lt _ (not_lt hs)
      obtain ⟨y1, i1, t1, y2, i2, t2, y3, R⟩ := round_at hlt x
      have hnext : crcRun (4294967295 ^^^ s) (l.take (k + 1)) = y3 := by
        rw [R.h3, List.take_add_one, hlx, crcRun, crcRun, List.foldl_append]; rfl
      have Hn := Lib.hid hnext
      have H8 := Lib.hid (show crcN 8 y1 = y3 from R.h0)
      have e1 := R.e1
      have b1 := R.b1
      generalize crcRun (4294967295 ^^^ s) (l.take k) = z at *
      clear R hnext hlx
      go_wp2
      try rw [show decide ((k : Int) < (l.length : Int)) = true from by simp; omega]
      go_loopg [5, 7] 8 (fun g x i wi => wi = wr ∧ ∃ m : Nat, g = 8 - m ∧ m ≤ 8 ∧ i = .int .i64 m ∧ x = .int .u32 ((crcN m y1 : Nat) : Int))
      case atStart => exact ⟨rfl, 0, rfl, by omega, rfl, rfl⟩
      case round =>
        obtain ⟨rfl, m, hg, hm, rfl, rfl⟩ := hrel
        subst hg
        have hv := crcN_lt b1 m
        have Hm := Lib.hid (show crcN (m + 1) y1 = crcStep (crcN m y1) from rfl)
        by_cases hm8 : m < 8
        · generalize crcN m y1 = v at *
          rcases Nat.mod_two_eq_zero_or_one v with h | h
          · obtain ⟨f1, f2⟩ := even_bits hv h
            generalize crcStep v = u at *
            clear h
            go_wp2
            go_roundg (8 - (m + 1))
            case measure => omega
            case rel => exact ⟨rfl, m + 1, rfl, by omega, by go_num, by rw [Hm.out]⟩
          · obtain ⟨f1, f2⟩ := odd_bits hv h
            generalize crcStep v = u at *
            clear h
            go_wp2
            go_roundg (8 - (m + 1))
            case measure => omega
            case rel => exact ⟨rfl, m + 1, rfl, by omega, by go_num, by rw [Hm.out]⟩
        · have hm' : m = 8 := by omega
          subst hm'
          go_wp2
          go_roundg (l.length - (k + 1))
          case measure => omega
          case rel => exact ⟨rfl, k + 1, rfl, by omega, by go_num, by rw [Hn.out, H8.out]⟩
    · have hk' : k = l.length := by omega
      subst hk'
      go_wp2
      go_ret
      refine ⟨?_, rfl⟩
      show Ending.returned (.int .u32 (bits .xor .u32 IntKind.u32.max ((crcRun (4294967295 ^^^ s) l : Nat) : Int))) = _
      rw [not_u32 _ (crcRun_lt l (not_lt hs))]
      rfl

theorem refSum_any {w : World} {b : Value} {l : List UInt8} (hb : seqV w b (bytesL l)) (hlen : l.length ≤ 1073741824) :
    Calls Tryz.prog 155 #[b] w fun e w' => e = .returned (.int .u32 ((crcMore 0 l : Nat) : Int)) ∧ w = w' := by
  have HB := Lib.hid hb
  obtain ⟨a, n, c, rfl, hal, ha2⟩ := id hb
  clear hb hal ha2
  go_enter Tryz.func155, Tryz.ntmps155
  go_wp2_with (go_at_call 222; refine (refMore_any (s := 0) (l := l) (by decide) HB.out hlen).mono ?_; rintro e w1 ⟨rfl, rfl⟩)
  go_ret
  exact ⟨rfl, rfl⟩
end Go.Proofs.YtkogkokmcmallaaGreatDoor
