/- Small functions of the statements: Number, SameBytes. -/
import Derived.Test.YtjiigajekminaaaDoorLawA
namespace Go.Proofs.YtjiigajekminaaaDoor
set_option linter.all false
open Go.RowKit

def NumPost (b : Nat) (w : World) (e : Ending) (w' : World) : Prop := ∃ r : Nat, r < b ∧ e = .returned (.int .i64 r) ∧ w' = w
theorem number_any (n : Int) (b : Nat) (hb : 0 < b ∧ b < 1000) (w : World) : Calls Tryd.prog 34 #[.int .i64 n, .int .i64 b] w (NumPost b w) := by
  have hb0 : (b : Int) ≠ 0 := by omega
  have hr := Int.tmod_lt_of_pos n (b := b) (by omega)
  have hl : -(b : Int) < n.tmod b := by
    have h1 := Int.natAbs_tmod n b
    have h2 : n.natAbs % (b : Int).natAbs < b := by simpa using Nat.mod_lt n.natAbs hb.1
    omega
  generalize hm : n.tmod b = m at hr hl
  by_cases h : m < 0
  · go_enter Tryd.func34, Tryd.ntmps34
    go_wp2
    go_ret
    exact ⟨(m + b).toNat, by omega, ret_int (by omega), rfl⟩
  · go_enter Tryd.func34, Tryd.ntmps34
    go_wp2
    go_ret
    exact ⟨m.toNat, by omega, ret_int (by omega), rfl⟩

def NumLit (b : Int) (w : World) (e : Ending) (w' : World) : Prop := ∃ r : Nat, (r : Int) < b ∧ e = .returned (.int .i64 r) ∧ w' = w
theorem number_lit (n b : Int) (hb : 0 < b ∧ b < 1000) (w : World) : Calls Tryd.prog 34 #[.int .i64 n, .int .i64 b] w (NumLit b w) := by
  obtain ⟨k, rfl⟩ : ∃ k : Nat, b = k := ⟨b.toNat, by omega⟩
  refine (number_any n k (by omega) w).mono ?_
  rintro e w' ⟨r, hr, rfl, rfl⟩
  exact ⟨r, by omega, rfl, rfl⟩

theorem oneU8 (l : List UInt8) {i : Nat} {v : Value} (h : (bytesL l)[i]? = some v) : ∃ x, l[i]? = some x ∧ v = .int .u8 x.toNat := by
  simp only [bytesL, List.getElem?_map, Option.map_eq_some_iff] at h
  obtain ⟨x, hx, rfl⟩ := h
  exact ⟨x, hx, rfl⟩

set_option maxRecDepth 100000 in
theorem sameBytes_any {w : World} {a b : Value} {l : List UInt8} (ha : seqV w a (bytesL l)) (hb : seqV w b (bytesL l)) (hlen : l.length ≤ 1073741824) : Calls Tryd.prog 38 #[a, b] w (BoolNew true w) := by
  have HA := Lib.hid ha
  have HB := Lib.hid hb
  obtain ⟨aa, an, ac, rfl, hal, ha2⟩ := id ha
  obtain ⟨ba, bn, bc, rfl, hbl, hb2⟩ := id hb
  have hal' : an = l.length := by simpa [bytesL] using hal
  have hbl' : bn = l.length := by simpa [bytesL] using hbl
  clear hal hbl
  subst hal'
  subst hbl'
  clear ha hb ha2 hb2
  go_enter Tryd.func38, Tryd.ntmps38
  go_wp2
  go_loopw [5, 6] (fun i same wr => ∃ k : Nat, k ≤ l.length ∧ i = .int .i64 k ∧ Below w.heap.size w wr) (fun i _ _ => l.length - (intOf i).toNat)
  case atStart => exact ⟨0, Nat.zero_le _, rfl, Below.refl _ _⟩
  case round =>
    obtain ⟨k, hk, rfl, hbel⟩ := hrel
    have Hbel := Lib.hid hbel
    clear hbel
    by_cases hkl : k < l.length
    · obtain ⟨b1, o1, rfl, lt1, hc1⟩ := HA.out.cell hkl
      obtain ⟨b2, o2, rfl, lt2, hc2⟩ := HB.out.cell hkl
      have hk' : k < (bytesL l).length := by simpa [bytesL] using hkl
      have c1 : wr.cell? ⟨b1, o1 + k, none⟩ = some (bytesL l)[k] := (Hbel.out.cell (p := ⟨b1, o1 + k, none⟩) lt1).trans (hc1 k hk')
      have c2 : wr.cell? ⟨b2, o2 + k, none⟩ = some (bytesL l)[k] := (Hbel.out.cell (p := ⟨b2, o2 + k, none⟩) lt2).trans (hc2 k hk')
      obtain ⟨x, _, hx⟩ := oneU8 l (List.getElem?_eq_getElem hk')
      rw [hx] at c1 c2
      clear hc1 hc2 hx hk'
      go_wp2
      go_region_held3 (fun w' => w'.cell? ⟨b1, o1 + k, none⟩ = some (.int .u8 x.toNat) ∧ w'.cell? ⟨b2, o2 + k, none⟩ = some (.int .u8 x.toNat)) (go_keep) (first | (fail))
      go_wp2
      go_roundw
      case rel =>
        exact ⟨k + 1, by omega, by go_num, Hbel.out.drew⟩
      case measure => simp [intOf]; omega
    · have : k = l.length := by omega
      subst this
      go_wp2
      go_ret
      exact ⟨rfl, Hbel.out⟩
end Go.Proofs.YtjiigajekminaaaDoor
