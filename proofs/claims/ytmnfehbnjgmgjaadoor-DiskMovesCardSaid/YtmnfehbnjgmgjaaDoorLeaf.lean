/- The leaves: small functions that only reckon; slices.Clone. -/
import Derived.Test.YtmnfehbnjgmgjaaDoorMap
import Derived.Test.YtmnfehbnjgmgjaaDoorProg
import Derived.WalkSpells
namespace Go.Proofs.YtmnfehbnjgmgjaaDoor
set_option linter.all false
open Go.RowKit

/-! ### names -/
def smallB (c : Int) : Bool := decide (97 ≤ c) && decide (c ≤ 122)
def nameC (c : Int) : Bool := smallB c || (decide (48 ≤ c) && decide (c ≤ 57)) || c == 46 || c == 45 || c == 95
def validB (l : List UInt8) : Bool := decide (1 ≤ l.length) && decide (l.length ≤ 64) && l.all fun c => nameC c.toNat

theorem small_any (c : Int) (w : World) :
    Calls Tryd.prog 103 #[.int .u8 c] w fun e w' => e = .returned (.bool (smallB c)) ∧ w = w' := by
  by_cases h : 97 ≤ c
  · go_enter Tryd.func103, Tryd.ntmps103
    go_wp2
    go_ret
    exact ⟨ret_bool (by rw [smallB, decide_eq_true h, Bool.true_and]), rfl⟩
  · have hb : smallB c = false := by simp [smallB]; omega
    go_enter Tryd.func103, Tryd.ntmps103
    go_wp2
    go_ret
    exact ⟨rfl, rfl⟩

theorem all_take_snoc (s : ByteArray) (k : Nat) (h : k < s.size) (p : UInt8 → Bool) : (s.data.toList.take (k + 1)).all p = ((s.data.toList.take k).all p && p s[k]) := by
  rw [List.take_succ_eq_append_getElem (by simpa using h), List.all_append]
  simp only [List.all_cons, List.all_nil, Bool.and_true]
  rfl
theorem all_false_of {l : List UInt8} {p : UInt8 → Bool} {k : Nat} (h : k < l.length) (hp : p l[k] = false) : l.all p = false := by
  rw [List.all_eq_false]
  exact ⟨l[k], List.getElem_mem h, by simp [hp]⟩

set_option maxHeartbeats 800000 in
theorem valid_any (s : ByteArray) (w : World) :
    Calls Tryd.prog 70 #[.string s] w fun e w' => e = .returned (.bool (validB s.data.toList)) ∧ w = w' := by
  by_cases h : 1 ≤ s.size
  · by_cases h2 : s.size ≤ 64
    · go_enter Tryd.func70, Tryd.ntmps70
      go_wp2
      go_loop [15] (fun i => ∃ k : Nat, k ≤ s.size ∧ i = .int .i64 k ∧ (s.data.toList.take k).all (fun c => nameC c.toNat) = true) (fun i => s.size - (intOf i).toNat)
      case atStart => exact ⟨0, Nat.zero_le _, rfl, rfl⟩
      case round =>
        obtain ⟨k, hk, rfl, hall⟩ := hrel
        have Hall := Lib.hid hall
        clear hall
        by_cases hlt : k < s.size
        · have hstep := all_take_snoc s k hlt (fun c => nameC c.toNat)
          have Hs := Lib.hid hstep
          clear hstep
          have hkl : k < s.data.toList.length := by simpa using hlt
          have hget : s.data.toList[k] = s[k] := by rw [Array.getElem_toList]; rfl
          have Hg := Lib.hid hget
          clear hget
          have hgo : nameC (s[k].toNat : Int) = true → ((s.data.toList.take (k + 1)).all fun c => nameC c.toNat) = true := fun h => by rw [Hs.out, Hall.out, h]; rfl
          have hno : nameC (s[k].toNat : Int) = false → validB s.data.toList = false := fun h => by
            have := all_false_of (p := fun c => nameC c.toNat) hkl (by rw [Hg.out]; exact h)
            simp [validB, this]
          cases hs : smallB (s[k].toNat : Int) with
          | true =>
            have hn : nameC (s[k].toNat : Int) = true := by simp [nameC, hs]
            have h1 := hgo hn
            clear hgo hno hn
            have H1 := Lib.hid h1
            clear h1
            go_wp2_with (go_at_call 103; refine (small_any _ _).mono ?_; rintro e w' ⟨rfl, rfl⟩)
            go_round
            case rel => exact ⟨k + 1, by omega, by go_num, H1.out⟩
            case measure => simp [intOf]; omega
          | false =>
            rcases (by omega : s[k].toNat = 46 ∨ s[k].toNat = 45 ∨ s[k].toNat = 95 ∨ (48 ≤ s[k].toNat ∧ s[k].toNat ≤ 57) ∨ (s[k].toNat ≠ 46 ∧ s[k].toNat ≠ 45 ∧ s[k].toNat ≠ 95 ∧ (s[k].toNat < 48 ∨ 57 < s[k].toNat))) with hc | hc | hc | hc | hc
            · have b46 : ((s[k].toNat : Int) != 46) = false := by rw [bne_eq_false_iff_eq]; omega
              have b45 : ((s[k].toNat : Int) != 45) = true := by rw [bne_iff_ne]; omega
              have b95 : ((s[k].toNat : Int) != 95) = true := by rw [bne_iff_ne]; omega
              have hn : nameC (s[k].toNat : Int) = true := by simp [nameC]; omega
              have h1 := hgo hn
              clear hgo hno hn
              have H1 := Lib.hid h1
              clear h1
              have hlo : (0 : Int) ≤ (s[k].toNat : Int) := by omega
              have hlt48 : (s[k].toNat : Int) < 48 := by omega
              clear hc
              go_wp2_with (go_at_call 103; refine (small_any _ _).mono ?_; rintro e w' ⟨rfl, rfl⟩)
              all_goals
                go_round
                case rel => exact ⟨k + 1, by omega, by go_num, H1.out⟩
                case measure => simp [intOf]; omega
            · have b46 : ((s[k].toNat : Int) != 46) = true := by rw [bne_iff_ne]; omega
              have b45 : ((s[k].toNat : Int) != 45) = false := by rw [bne_eq_false_iff_eq]; omega
              have b95 : ((s[k].toNat : Int) != 95) = true := by rw [bne_iff_ne]; omega
              have hn : nameC (s[k].toNat : Int) = true := by simp [nameC]; omega
              have h1 := hgo hn
              clear hgo hno hn
              have H1 := Lib.hid h1
              clear h1
              have hlo : (0 : Int) ≤ (s[k].toNat : Int) := by omega
              have hlt48 : (s[k].toNat : Int) < 48 := by omega
              clear hc
              go_wp2_with (go_at_call 103; refine (small_any _ _).mono ?_; rintro e w' ⟨rfl, rfl⟩)
              all_goals
                go_round
                case rel => exact ⟨k + 1, by omega, by go_num, H1.out⟩
                case measure => simp [intOf]; omega
            · have b46 : ((s[k].toNat : Int) != 46) = true := by rw [bne_iff_ne]; omega
              have b45 : ((s[k].toNat : Int) != 45) = true := by rw [bne_iff_ne]; omega
              have b95 : ((s[k].toNat : Int) != 95) = false := by rw [bne_eq_false_iff_eq]; omega
              have hn : nameC (s[k].toNat : Int) = true := by simp [nameC]; omega
              have h1 := hgo hn
              clear hgo hno hn
              have H1 := Lib.hid h1
              clear h1
              have hlo : (0 : Int) ≤ (s[k].toNat : Int) := by omega
              have hlt48 : (s[k].toNat : Int) > 57 := by omega
              clear hc
              go_wp2_with (go_at_call 103; refine (small_any _ _).mono ?_; rintro e w' ⟨rfl, rfl⟩)
              all_goals
                go_round
                case rel => exact ⟨k + 1, by omega, by go_num, H1.out⟩
                case measure => simp [intOf]; omega
            · have b46 : ((s[k].toNat : Int) != 46) = true := by rw [bne_iff_ne]; omega
              have b45 : ((s[k].toNat : Int) != 45) = true := by rw [bne_iff_ne]; omega
              have b95 : ((s[k].toNat : Int) != 95) = true := by rw [bne_iff_ne]; omega
              have hn : nameC (s[k].toNat : Int) = true := by simp [nameC]; omega
              have h1 := hgo hn
              clear hgo hno hn
              have H1 := Lib.hid h1
              clear h1
              have hlo : (0 : Int) ≤ (s[k].toNat : Int) := by omega
              obtain ⟨hc1, hc2⟩ := hc
              go_wp2_with (go_at_call 103; refine (small_any _ _).mono ?_; rintro e w' ⟨rfl, rfl⟩)
              all_goals
                go_round
                case rel => exact ⟨k + 1, by omega, by go_num, H1.out⟩
                case measure => simp [intOf]; omega
            · have b46 : ((s[k].toNat : Int) != 46) = true := by rw [bne_iff_ne]; omega
              have b45 : ((s[k].toNat : Int) != 45) = true := by rw [bne_iff_ne]; omega
              have b95 : ((s[k].toNat : Int) != 95) = true := by rw [bne_iff_ne]; omega
              have hn : nameC (s[k].toNat : Int) = false := by simp [nameC, hs]; omega
              have h1 := hno hn
              clear hgo hno hn
              have H1 := Lib.hid h1
              clear h1
              obtain ⟨hc1, hc2, hc3, hc⟩ := hc
              clear hc1 hc2 hc3
              rcases hc with hc | hc
              · go_wp2_with (go_at_call 103; refine (small_any _ _).mono ?_; rintro e w' ⟨rfl, rfl⟩)
                go_ret
                exact ⟨ret_bool H1.out.symm, rfl⟩
              · go_wp2_with (go_at_call 103; refine (small_any _ _).mono ?_; rintro e w' ⟨rfl, rfl⟩)
                go_ret
                exact ⟨ret_bool H1.out.symm, rfl⟩
        · have hke : k = s.size := by omega
          subst hke
          have hv : validB s.data.toList = true := by
            have := Hall.out
            rw [List.take_of_length_le (by simp)] at this
            simp [validB, this]; omega
          have Hv := Lib.hid hv
          clear hv
          go_wp2
          go_ret
          exact ⟨ret_bool Hv.out.symm, rfl⟩
    · go_enter Tryd.func70, Tryd.ntmps70
      go_wp2
      go_ret
      exact ⟨ret_bool (by simp [validB]; omega), rfl⟩
  · go_enter Tryd.func70, Tryd.ntmps70
    go_wp2
    go_ret
    exact ⟨ret_bool (by simp [validB]; omega), rfl⟩

end Go.Proofs.YtmnfehbnjgmgjaaDoor
