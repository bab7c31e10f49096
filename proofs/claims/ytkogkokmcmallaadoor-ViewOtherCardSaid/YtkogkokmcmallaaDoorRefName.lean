/- cordwoodref1.ValidName: the document's names are the program's. -/
import Derived.Test.YtkogkokmcmallaaDoorZa
namespace Go.Proofs.YtkogkokmcmallaaDoor
set_option linter.all false
open Go.RowKit

set_option maxHeartbeats 800000 in
set_option maxRecDepth 100000 in
theorem refValid_any (s : ByteArray) (w : World) :
    Calls Tryd.prog 81 #[.string s] w fun e w' => e = .returned (.bool (validB s.data.toList)) ∧ w = w' := by
  by_cases h : 1 ≤ s.size
  · by_cases h2 : s.size ≤ 64
    · go_enter Tryd.func81, Tryd.ntmps81
      go_wp2
      go_loop [3] (fun i => ∃ k : Nat, k ≤ s.size ∧ i = .int .i64 k ∧ (s.data.toList.take k).all (fun c => nameC c.toNat) = true) (fun i => s.size - (intOf i).toNat)
      case atStart => exact ⟨0, Nat.zero_le _, rfl, rfl⟩
      case round =>
        obtain ⟨k, hk, rfl, hall⟩ := hrel
        have Hall := Lib.hid hall
        clear hall
        by_cases hlt : k < s.size
        · have hstep := all_take_snoc s k hlt (fun c => nameC c.toNat)
          have Hs := Lib.hid hstep
          clear hstep
          have hkl : k < s.data.toList.length := by simpa using hlt
          have hget : s.data.toList[k] = s[k] := by rw [Array.getElem_toList]; rfl
          have Hg := Lib.hid hget
          clear hget
          have hgo : nameC (s[k].toNat : Int) = true → ((s.data.toList.take (k + 1)).all fun c => nameC c.toNat) = true := fun h => by rw [Hs.out, Hall.out, h]; rfl
          have hno : nameC (s[k].toNat : Int) = false → validB s.data.toList = false := fun h => by
            have := all_false_of (p := fun c => nameC c.toNat) hkl (by rw [Hg.out]; exact h)
            simp [validB, this]
          rcases (by omega : (97 ≤ s[k].toNat ∧ s[k].toNat ≤ 122) ∨ (48 ≤ s[k].toNat ∧ s[k].toNat ≤ 57) ∨ (s[k].toNat = 46) ∨ (s[k].toNat = 45) ∨ (s[k].toNat = 95) ∨ ((s[k].toNat < 48 ∧ s[k].toNat ≠ 46 ∧ s[k].toNat ≠ 45)) ∨ ((57 < s[k].toNat ∧ s[k].toNat < 97 ∧ s[k].toNat ≠ 95)) ∨ (122 < s[k].toNat)) with hc | hc | hc | hc | hc | hc | hc | hc
          · have b46 : ((s[k].toNat : Int) != 46) = true := by rw [bne_iff_ne]; omega
            have b45 : ((s[k].toNat : Int) != 45) = true := by rw [bne_iff_ne]; omega
            have b95 : ((s[k].toNat : Int) != 95) = true := by rw [bne_iff_ne]; omega
            have hn : nameC (s[k].toNat : Int) = true := by simp [nameC, smallB]; omega
            have h1 := hgo hn
            clear hgo hno hn
            have H1 := Lib.hid h1
            clear h1
            have q0 : (97 : Int) ≤ (s[k].toNat : Int) := by omega
            have q1 : (s[k].toNat : Int) ≤ 122 := by omega
            clear hc
            go_wp2
            go_round
            case rel => exact ⟨k + 1, by omega, by go_num, H1.out⟩
            case measure => simp [intOf]; omega
          · have b46 : ((s[k].toNat : Int) != 46) = true := by rw [bne_iff_ne]; omega
            have b45 : ((s[k].toNat : Int) != 45) = true := by rw [bne_iff_ne]; omega
            have b95 : ((s[k].toNat : Int) != 95) = true := by rw [bne_iff_ne]; omega
            have hn : nameC (s[k].toNat : Int) = true := by simp [nameC, smallB]; omega
            have h1 := hgo hn
            clear hgo hno hn
            have H1 := Lib.hid h1
            clear h1
            have q0 : (48 : Int) ≤ (s[k].toNat : Int) := by omega
            have q1 : (s[k].toNat : Int) ≤ 57 := by omega
            clear hc
            go_wp2
            go_round
            case rel => exact ⟨k + 1, by omega, by go_num, H1.out⟩
            case measure => simp [intOf]; omega
          · have b46 : ((s[k].toNat : Int) != 46) = false := by rw [bne_eq_false_iff_eq]; omega
            have b45 : ((s[k].toNat : Int) != 45) = true := by rw [bne_iff_ne]; omega
            have b95 : ((s[k].toNat : Int) != 95) = true := by rw [bne_iff_ne]; omega
            have hn : nameC (s[k].toNat : Int) = true := by simp [nameC, smallB]; omega
            have h1 := hgo hn
            clear hgo hno hn
            have H1 := Lib.hid h1
            clear h1
            have q0 : (0 : Int) ≤ (s[k].toNat : Int) := by omega
            have q1 : (s[k].toNat : Int) < 48 := by omega
            clear hc
            go_wp2
            go_round
            case rel => exact ⟨k + 1, by omega, by go_num, H1.out⟩
            case measure => simp [intOf]; omega
          · have b46 : ((s[k].toNat : Int) != 46) = true := by rw [bne_iff_ne]; omega
            have b45 : ((s[k].toNat : Int) != 45) = false := by rw [bne_eq_false_iff_eq]; omega
            have b95 : ((s[k].toNat : Int) != 95) = true := by rw [bne_iff_ne]; omega
            have hn : nameC (s[k].toNat : Int) = true := by simp [nameC, smallB]; omega
            have h1 := hgo hn
            clear hgo hno hn
            have H1 := Lib.hid h1
            clear h1
            have q0 : (0 : Int) ≤ (s[k].toNat : Int) := by omega
            have q1 : (s[k].toNat : Int) < 48 := by omega
            clear hc
            go_wp2
            go_round
            case rel => exact ⟨k + 1, by omega, by go_num, H1.out⟩
            case measure => simp [intOf]; omega
          · have b46 : ((s[k].toNat : Int) != 46) = true := by rw [bne_iff_ne]; omega
            have b45 : ((s[k].toNat : Int) != 45) = true := by rw [bne_iff_ne]; omega
            have b95 : ((s[k].toNat : Int) != 95) = false := by rw [bne_eq_false_iff_eq]; omega
            have hn : nameC (s[k].toNat : Int) = true := by simp [nameC, smallB]; omega
            have h1 := hgo hn
            clear hgo hno hn
            have H1 := Lib.hid h1
            clear h1
            have q0 : (57 : Int) < (s[k].toNat : Int) := by omega
            have q1 : (s[k].toNat : Int) < 97 := by omega
            clear hc
            go_wp2
            go_round
            case rel => exact ⟨k + 1, by omega, by go_num, H1.out⟩
            case measure => simp [intOf]; omega
          · have b46 : ((s[k].toNat : Int) != 46) = true := by rw [bne_iff_ne]; omega
            have b45 : ((s[k].toNat : Int) != 45) = true := by rw [bne_iff_ne]; omega
            have b95 : ((s[k].toNat : Int) != 95) = true := by rw [bne_iff_ne]; omega
            have hn : nameC (s[k].toNat : Int) = false := by simp [nameC, smallB]; omega
            have h1 := hno hn
            clear hgo hno hn
            have H1 := Lib.hid h1
            clear h1
            have q0 : (0 : Int) ≤ (s[k].toNat : Int) := by omega
            have q1 : (s[k].toNat : Int) < 48 := by omega
            clear hc
            go_wp2
            go_ret
            exact ⟨ret_bool H1.out.symm, rfl⟩
          · have b46 : ((s[k].toNat : Int) != 46) = true := by rw [bne_iff_ne]; omega
            have b45 : ((s[k].toNat : Int) != 45) = true := by rw [bne_iff_ne]; omega
            have b95 : ((s[k].toNat : Int) != 95) = true := by rw [bne_iff_ne]; omega
            have hn : nameC (s[k].toNat : Int) = false := by simp [nameC, smallB]; omega
            have h1 := hno hn
            clear hgo hno hn
            have H1 := Lib.hid h1
            clear h1
            have q0 : (57 : Int) < (s[k].toNat : Int) := by omega
            have q1 : (s[k].toNat : Int) < 97 := by omega
            clear hc
            go_wp2
            go_ret
            exact ⟨ret_bool H1.out.symm, rfl⟩
          · have b46 : ((s[k].toNat : Int) != 46) = true := by rw [bne_iff_ne]; omega
            have b45 : ((s[k].toNat : Int) != 45) = true := by rw [bne_iff_ne]; omega
            have b95 : ((s[k].toNat : Int) != 95) = true := by rw [bne_iff_ne]; omega
            have hn : nameC (s[k].toNat : Int) = false := by simp [nameC, smallB]; omega
            have h1 := hno hn
            clear hgo hno hn
            have H1 := Lib.hid h1
            clear h1
            have q0 : (122 : Int) < (s[k].toNat : Int) := by omega
            clear hc
            go_wp2
            go_ret
            exact ⟨ret_bool H1.out.symm, rfl⟩
        · have hk' : k = s.size := by omega
          subst hk'
          have hv : validB s.data.toList = true := by
            have := Hall.out
            rw [List.take_of_length_le (by simp)] at this
            simp only [validB, this, Bool.and_true, Bool.and_eq_true, decide_eq_true_eq]
            exact ⟨by simpa using h, by simpa using h2⟩
          have Hv := Lib.hid hv
          clear hv
          go_wp2
          go_ret
          exact ⟨ret_bool Hv.out.symm, rfl⟩
    · have hv : validB s.data.toList = false := by simp [validB]; omega
      have Hv := Lib.hid hv
      clear hv
      go_enter Tryd.func81, Tryd.ntmps81
      go_wp2
      go_ret
      exact ⟨ret_bool Hv.out.symm, rfl⟩
  · have hv : validB s.data.toList = false := by simp [validB]; omega
    have Hv := Lib.hid hv
    clear hv
    go_enter Tryd.func81, Tryd.ntmps81
    go_wp2
    go_ret
    exact ⟨ret_bool Hv.out.symm, rfl⟩
end Go.Proofs.YtkogkokmcmallaaDoor
