/- The document's sum (cordwoodref1.More, Sum): bit by bit. -/
import Derived.Test.YtkogkokmcmallaaDoorZe
namespace Go.Proofs.YtkogkokmcmallaaDoor
set_option linter.all false
open Go.RowKit

theorem odd_bits {v : Nat} (hv : v < 4294967296) (h : v % 2 = 1) : bits .and .u32 (v : Int) 1 = 1 ∧ bits .xor .u32 ((v : Int) / 2) 2197175160 = ((crcStep v : Nat) : Int) := by
  have e1 : bits .and .u32 (v : Int) 1 = ((v % 2 : Nat) : Int) := by
    have := bits_and_u32_nat v 1 hv (by decide)
    rw [show ((1 : Nat) : Int) = 1 from rfl] at this
    rw [this, show v &&& 1 = v % 2 from Nat.and_two_pow_sub_one_eq_mod v 1]
  refine ⟨by rw [e1, h]; rfl, ?_⟩
  have := bits_xor_u32_nat (v / 2) 2197175160 (by omega) (by decide)
  rw [show ((v : Int) / 2) = ((v / 2 : Nat) : Int) by omega, show (2197175160 : Int) = ((2197175160 : Nat) : Int) from rfl, this]
  unfold crcStep
  rw [if_pos h]
theorem even_bits {v : Nat} (hv : v < 4294967296) (h : v % 2 = 0) : bits .and .u32 (v : Int) 1 = 0 ∧ (v : Int) / 2 = ((crcStep v : Nat) : Int) := by
  have e1 : bits .and .u32 (v : Int) 1 = ((v % 2 : Nat) : Int) := by
    have := bits_and_u32_nat v 1 hv (by decide)
    rw [show ((1 : Nat) : Int) = 1 from rfl] at this
    rw [this, show v &&& 1 = v % 2 from Nat.and_two_pow_sub_one_eq_mod v 1]
  refine ⟨by rw [e1, h]; rfl, ?_⟩
  unfold crcStep
  rw [if_neg (by omega), Nat.xor_zero]
  omega

set_option maxRecDepth 100000 in
theorem refMore_any {w : World} {b : Value} {l : List UInt8} {s : Nat} (hs : s < 4294967296) (hb : seqV w b (bytesL l)) (hlen : l.length ≤ 1073741824) :
    Calls Tryd.prog 78 #[.int .u32 (s : Int), b] w fun e w' => e = .returned (.int .u32 ((crcMore s l : Nat) : Int)) ∧ w = w' := by
  have HB := Lib.hid hb
  obtain ⟨a, n, c, rfl, hal, ha2⟩ := id hb
  have hal' : n = l.length := by simpa [bytesL] using hal
  clear hal
  subst hal'
  clear hb ha2
  go_enter Tryd.func78, Tryd.ntmps78
  go_wp2
  go_loopg [5, 6] l.length (fun g x i wr => wr = w ∧ ∃ k : Nat, g = l.length - k ∧ k ≤ l.length ∧ i = .int .i64 k ∧ x = .int .u32 ((crcRun (4294967295 ^^^ s) (l.take k) : Nat) : Int))
  case atStart => exact ⟨rfl, 0, rfl, Nat.zero_le _, rfl, by rw [not_u32 _ hs]; rfl⟩
  case round =>
    obtain ⟨rfl, k, hg, hk, rfl, rfl⟩ := hrel
    subst hg
    by_cases hkl : k < l.length
    · obtain ⟨bb, off, rfl, lt, hc⟩ := HB.out.cell hkl
      have hk' : k < (bytesL l).length := by simpa [bytesL] using hkl
      have cx := hc k hk'
      obtain ⟨x, hlx, hx⟩ := oneU8c l (List.getElem?_eq_getElem hk')
      rw [hx] at cx
      clear hc hx hk'
      have hlt : crcRun (4294967295 ^^^ s) (l.take k) < 4294967296 := crcRun_lt _ (not_lt hs)
      obtain ⟨y1, i1, t1, y2, i2, t2, y3, R⟩ := round_at hlt x
      have hnext : crcRun (4294967295 ^^^ s) (l.take (k + 1)) = y3 := by
        rw [R.h3, List.take_add_one, hlx, crcRun, crcRun, List.foldl_append]; rfl
      have Hn := Lib.hid hnext
      have H8 := Lib.hid (show crcN 8 y1 = y3 from R.h0)
      have e1 := R.e1
      have b1 := R.b1
      generalize crcRun (4294967295 ^^^ s) (l.take k) = z at *
      clear R hnext hlx
      go_wp2
      try rw [show decide ((k : Int) < (l.length : Int)) = true from by simp; omega]
      go_loopg [5, 7] 8 (fun g x i wi => wi = wr ∧ ∃ m : Nat, g = 8 - m ∧ m ≤ 8 ∧ i = .int .i64 m ∧ x = .int .u32 ((crcN m y1 : Nat) : Int))
      case atStart => exact ⟨rfl, 0, rfl, by omega, rfl, rfl⟩
      case round =>
        obtain ⟨rfl, m, hg, hm, rfl, rfl⟩ := hrel
        subst hg
        have hv := crcN_lt b1 m
        have Hm := Lib.hid (show crcN (m + 1) y1 = crcStep (crcN m y1) from rfl)
        by_cases hm8 : m < 8
        · generalize crcN m y1 = v at *
          rcases Nat.mod_two_eq_zero_or_one v with h | h
          · obtain ⟨f1, f2⟩ := even_bits hv h
            generalize crcStep v = u at *
            clear h
            go_wp2
            go_roundg (8 - (m + 1))
            case measure => omega
            case rel => exact ⟨rfl, m + 1, rfl, by omega, by go_num, by rw [Hm.out]⟩
          · obtain ⟨f1, f2⟩ := odd_bits hv h
            generalize crcStep v = u at *
            clear h
            go_wp2
            go_roundg (8 - (m + 1))
            case measure => omega
            case rel => exact ⟨rfl, m + 1, rfl, by omega, by go_num, by rw [Hm.out]⟩
        · have hm' : m = 8 := by omega
          subst hm'
          go_wp2
          go_roundg (l.length - (k + 1))
          case measure => omega
          case rel => exact ⟨rfl, k + 1, rfl, by omega, by go_num, by rw [Hn.out, H8.out]⟩
    · have hk' : k = l.length := by omega
      subst hk'
      go_wp2
      go_ret
      refine ⟨?_, rfl⟩
      show Ending.returned (.int .u32 (bits .xor .u32 IntKind.u32.max ((crcRun (4294967295 ^^^ s) l : Nat) : Int))) = _
      rw [not_u32 _ (crcRun_lt l (not_lt hs))]
      rfl

theorem refSum_any {w : World} {b : Value} {l : List UInt8} (hb : seqV w b (bytesL l)) (hlen : l.length ≤ 1073741824) :
    Calls Tryd.prog 53 #[b] w fun e w' => e = .returned (.int .u32 ((crcMore 0 l : Nat) : Int)) ∧ w = w' := by
  have HB := Lib.hid hb
  obtain ⟨a, n, c, rfl, hal, ha2⟩ := id hb
  clear hb hal ha2
  go_enter Tryd.func53, Tryd.ntmps53
  go_wp2_with (go_at_call 78; refine (refMore_any (s := 0) (l := l) (by decide) HB.out hlen).mono ?_; rintro e w1 ⟨rfl, rfl⟩)
  go_ret
  exact ⟨rfl, rfl⟩
end Go.Proofs.YtkogkokmcmallaaDoor
