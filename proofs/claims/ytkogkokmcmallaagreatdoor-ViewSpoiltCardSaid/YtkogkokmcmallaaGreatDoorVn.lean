/- Numbers as bytes and back, in plain words. -/
import Derived.Test.YtkogkokmcmallaaGreatDoorVr
namespace Go.Proofs.YtkogkokmcmallaaGreatDoor
set_option linter.all false
open Go.RowKit

theorem zag_zig {z : Int} (h : InI64 z) : zag (zig z) = z := by
  obtain ⟨h1, h2⟩ := h
  unfold zag zig
  split
  · split <;> omega
  · split <;> omega
def numsF : List Int → List UInt8
  | [] => []
  | z :: l => vputL (zig z) ++ numsF l
def numsL (l : List Int) : List UInt8 := vputL l.length ++ numsF l
theorem numsF_app : ∀ (l m : List Int), numsF (l ++ m) = numsF l ++ numsF m
  | [], _ => rfl
  | z :: l, m => by simp [numsF, numsF_app l m]
/-- What was laid is read. -/
theorem vget_put : ∀ {f i n s : Nat} {b rest : List UInt8}, 1 ≤ f → i + f = 10 → n < 2 ^ (7 * f) → n < 2 ^ (64 - 7 * i) → (0 < i → 0 < n) → b.drop i = vputF f n ++ rest → vgetF f i s b = (0, s + n * 2 ^ (7 * i), i + (vputF f n).length)
  | 0, _, _, _, _, _, h, _, _, _, _, _ => by omega
  | f + 1, i, n, s, b, rest, _, hi, hn, hn2, hp, hb => by
    have hat : ∀ c l, b.drop i = c :: l → b[i]? = some c := fun c l h => by
      have := congrArg List.head? h
      simpa [List.head?_drop] using this
    by_cases h : n < 128
    · have e : vputF (f + 1) n = [UInt8.ofNat n] := by unfold vputF; rw [if_pos h]
      rw [e] at hb ⊢
      have hc := hat _ _ hb
      have hcn : (UInt8.ofNat n).toNat = n := by rw [UInt8.toNat_ofNat']; omega
      rw [vgetF_some hc, hcn]
      have h9 : ¬ (i = 9 ∧ 1 < n) := fun ⟨e1, e2⟩ => by subst e1; simp at hn2; omega
      rw [if_neg h9, if_neg (by omega), if_neg (by omega), Nat.mod_eq_of_lt h]
      simp
    · have e : vputF (f + 1) n = UInt8.ofNat (n % 128 + 128) :: vputF f (n / 128) := by conv => lhs; unfold vputF; rw [if_neg h]
      rw [e] at hb ⊢
      have hc := hat _ _ hb
      have hcn : (UInt8.ofNat (n % 128 + 128)).toNat = n % 128 + 128 := by rw [UInt8.toNat_ofNat']; omega
      have hi9 : i < 9 := by
        refine Classical.byContradiction fun hge => ?_
        have : i = 9 := by omega
        subst this
        simp at hn2
        omega
      rw [vgetF_some hc, hcn, if_neg (by omega), if_pos (by omega)]
      have h7 : 2 ^ (7 * (f + 1)) = 128 * 2 ^ (7 * f) := by rw [Nat.mul_add, Nat.pow_add]; omega
      have hq : n / 128 < 2 ^ (7 * f) := by rw [h7] at hn; exact Nat.div_lt_of_lt_mul hn
      have h8 : 2 ^ (64 - 7 * i) = 128 * 2 ^ (64 - 7 * (i + 1)) := by
        rw [show 64 - 7 * i = 7 + (64 - 7 * (i + 1)) by omega, Nat.pow_add]
      have hq2 : n / 128 < 2 ^ (64 - 7 * (i + 1)) := by rw [h8] at hn2; exact Nat.div_lt_of_lt_mul hn2
      have hd : b.drop (i + 1) = vputF f (n / 128) ++ rest := by
        have := congrArg (List.drop 1) hb
        simpa [List.drop_drop] using this
      have hf : 1 ≤ f := by
        refine Classical.byContradiction fun hge => ?_
        have : f = 0 := by omega
        subst this
        simp at hq
        omega
      rw [vget_put hf (by omega) hq hq2 (fun _ => by omega) hd]
      have h9 : 2 ^ (7 * (i + 1)) = 128 * 2 ^ (7 * i) := by rw [Nat.mul_add, Nat.pow_add]; omega
      have hm : (n % 128 + 128) % 128 = n % 128 := by omega
      rw [hm, h9, List.length_cons]
      have hn3 : n % 128 * 2 ^ (7 * i) + n / 128 * (128 * 2 ^ (7 * i)) = n * 2 ^ (7 * i) := by
        have := Nat.mod_add_div n 128
        calc n % 128 * 2 ^ (7 * i) + n / 128 * (128 * 2 ^ (7 * i)) = (n % 128 + 128 * (n / 128)) * 2 ^ (7 * i) := by rw [Nat.add_mul, Nat.mul_comm 128 (n / 128), Nat.mul_assoc]
          _ = n * 2 ^ (7 * i) := by rw [this]
      simp only [Prod.mk.injEq, true_and]
      constructor
      · omega
      · omega
theorem vget_app {n : Nat} (h : n < 18446744073709551616) (rest : List UInt8) : vget (vputL n ++ rest) = (0, n, (vputL n).length) := by
  have := vget_put (f := 10) (i := 0) (n := n) (s := 0) (b := vputL n ++ rest) (rest := rest) (by decide) rfl (by show n < 2 ^ 70; omega) (by show n < 2 ^ 64; omega) (fun h => by omega) rfl
  simpa [vget, vputL] using this
/-- Numbers are read, one behind the other. -/
def rloop : Nat → List UInt8 → Nat × Nat → List Int → List Int × Nat × Nat
  | 0, _, st, out => (out, st)
  | f + 1, b, st, out => if st.2 ≠ 0 then (out, st) else rloop f b (vintS b st).2 (out ++ [(vintS b st).1])
/-- The error's number, the numbers. -/
def rnums (b : List UInt8) : Nat × List Int :=
  let r := rloop (vnum 4096 b (0, 0)).1 b (vnum 4096 b (0, 0)).2 []
  if r.2.2 ≠ 0 then (r.2.2, []) else if r.2.1 < b.length then (104, []) else (0, r.1)
theorem rloop_nums : ∀ {l : List Int} {b pre out}, (∀ z ∈ l, InI64 z) → b = pre ++ numsF l → rloop l.length b (pre.length, 0) out = (out ++ l, b.length, 0)
  | [], b, pre, out, _, hb => by subst hb; simp [rloop, numsF]
  | z :: l, b, pre, out, hl, hb => by
    have hz := hl z (List.mem_cons_self ..)
    have hd : b.drop pre.length = vputL (zig z) ++ numsF l := by rw [hb]; simp [numsF]
    have hv : vintS b (pre.length, 0) = (z, pre.length + (vputL (zig z)).length, 0) := by
      simp only [vintS, vgetI, hd, vget_app (zig_lt hz), zag_zig hz]
      simp
    simp only [List.length_cons, rloop, hv]
    rw [if_neg (by decide)]
    have := rloop_nums (l := l) (b := b) (pre := pre ++ vputL (zig z)) (out := out ++ [z]) (fun y hy => hl y (List.mem_cons_of_mem _ hy)) (by rw [hb]; simp [numsF])
    rw [List.length_append] at this
    rw [this]
    simp
theorem rnums_nums {l : List Int} (h : ∀ z ∈ l, InI64 z) (hn : l.length ≤ 4096) : rnums (numsL l) = (0, l) := by
  have hv : vnum 4096 (numsL l) (0, 0) = (l.length, (vputL l.length).length, 0) := by
    simp only [vnum, List.drop_zero, numsL, vget_app (show l.length < 18446744073709551616 by omega)]
    simp
    omega
  have hr := rloop_nums (l := l) (b := numsL l) (pre := vputL l.length) (out := []) h rfl
  simp only [rnums, hv, hr]
  simp
end Go.Proofs.YtkogkokmcmallaaGreatDoor
