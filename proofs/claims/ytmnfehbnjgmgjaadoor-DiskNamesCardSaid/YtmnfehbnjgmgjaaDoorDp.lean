/- The disk in plain words: a crash. -/
import Derived.Test.YtmnfehbnjgmgjaaDoorDo
namespace Go.Proofs.YtmnfehbnjgmgjaaDoor
set_option linter.all false
open Go.RowKit
variable {d : Dk} {picks : List Int} {n i k : Nat}

theorem pickN_le (picks : List Int) (k n : Nat) : pickN picks k n ≤ n := by
  unfold pickN
  cases picks[k]? with
  | none => exact Nat.zero_le _
  | some x =>
    have h1 := Int.emod_nonneg x (b := (n : Int) + 1) (by omega)
    have h2 := Int.emod_lt_of_pos x (b := (n : Int) + 1) (by omega)
    show (x % ((n : Int) + 1)).toNat ≤ n
    omega
theorem applyAll_take {l : List (ByteArray × Nat)} {cs : List Chg} {c : Chg} (h : cs[k]? = some c) : applyAll l (cs.take (k + 1)) = c.app (applyAll l (cs.take k)) := by
  rw [List.take_add_one, h]
  simp [applyAll, List.foldl_append]
theorem applyAll_props {cs : List Chg} {S : Nat → Prop} : ∀ {l : List (ByteArray × Nat)}, (keysOf l).Nodup → (∀ x ∈ l, S x.2) → (∀ c ∈ cs, ∀ i, c.f = some i → S i) → (keysOf (applyAll l cs)).Nodup ∧ (∀ x ∈ applyAll l cs, S x.2) ∧ (applyAll l cs).length ≤ l.length + cs.length := by
  induction cs with
  | nil => exact fun h1 h2 _ => ⟨h1, h2, Nat.le_refl _⟩
  | cons c cs ih =>
    intro l h1 h2 h3
    have h4 := ih (l := c.app l) (Chg.app_nodup h1) (Chg.app_in h2 (h3 c (List.mem_cons_self ..))) fun c' hc => h3 c' (List.mem_cons_of_mem _ hc)
    have h5 := c.app_len l
    refine ⟨h4.1, h4.2.1, ?_⟩
    have h6 := h4.2.2
    simp only [applyAll, List.foldl_cons, List.length_cons] at h6 ⊢
    omega

/-! ### the files that are kept -/
theorem Dk.okB.keys_rise (h : d.okB) : (keysOf d.fs).Pairwise (· < ·) := h.ids.1
theorem keptIds_mem {fs : List (Nat × Fl)} {kept : List (ByteArray × Nat)} : i ∈ keptIds fs kept ↔ i ∈ keysOf fs ∧ i ∈ kept.map (·.2) := by simp [keptIds]
/-- Numbers in order, each once, are the kept ones. -/
theorem ids_eq (h : d.okB) {kept : List (ByteArray × Nat)} (hk : ∀ x ∈ kept, x.2 ∈ keysOf d.fs) {ids ids' : List Nat} (hp : ids'.Perm ids) (hs : ids'.Pairwise (· ≤ ·)) (hn : ids.Nodup) (hm : ∀ i, i ∈ ids ↔ i ∈ kept.map (·.2)) : ids' = keptIds d.fs kept := by
  have h1 : (keptIds d.fs kept).Pairwise (· < ·) := h.keys_rise.filter _
  have h2 : ids.Perm (keptIds d.fs kept) := (List.perm_ext_iff_of_nodup hn (h1.imp fun h => Nat.ne_of_lt h)).2 fun i => by
    rw [keptIds_mem, hm]
    constructor
    · intro hi
      obtain ⟨x, hx, rfl⟩ := List.mem_map.1 hi
      exact ⟨hk x hx, hi⟩
    · exact fun h => h.2
  exact (hp.trans h2).eq_of_pairwise (fun a b _ _ h1 h2 => Nat.le_antisymm h1 h2) hs (h1.imp fun h => Nat.le_of_lt h)

/-! ### what is cut off -/
def crashStep (picks : List Int) (k i : Nat) (fs : List (Nat × Fl)) : List (Nat × Fl) := match aget fs i with | some f => aput fs i (f.crashed picks k) | none => fs
theorem crashFs_snoc (i : Nat) : ∀ (l : List Nat) (k : Nat) (fs : List (Nat × Fl)), crashFs picks k (l ++ [i]) fs = crashStep picks (k + l.length) i (crashFs picks k l fs)
  | [], k, fs => rfl
  | j :: l, k, fs => by
    simp only [List.cons_append, crashFs, List.length_cons]
    rw [crashFs_snoc i l (k + 1), show k + 1 + l.length = k + (l.length + 1) by omega]
theorem crashFs_keys : ∀ (l : List Nat) (k : Nat) (fs : List (Nat × Fl)), keysOf (crashFs picks k l fs) = keysOf fs
  | [], _, _ => rfl
  | j :: l, k, fs => by
    simp only [crashFs]
    rw [crashFs_keys l]
    cases h : aget fs j with
    | none => rfl
    | some f => exact aput_keys (aget_keys h)
theorem crashFs_other : ∀ (l : List Nat) (k : Nat) (fs : List (Nat × Fl)), i ∉ l → aget (crashFs picks k l fs) i = aget fs i
  | [], _, _, _ => rfl
  | j :: l, k, fs, h => by
    simp only [List.mem_cons, not_or] at h
    simp only [crashFs]
    rw [crashFs_other l _ _ h.2]
    cases hj : aget fs j with
    | none => rfl
    | some f => exact aget_put_other _ _ h.1
theorem crashFs_at : ∀ (l : List Nat) (k : Nat) (fs : List (Nat × Fl)) {q : Nat} {f : Fl}, l.Nodup → l[q]? = some i → aget fs i = some f → aget (crashFs picks k l fs) i = some (f.crashed picks (k + q))
  | [], _, _, _, _, _, h, _ => by simp at h
  | j :: l, k, fs, 0, f, hn, h, hf => by
    simp only [List.getElem?_cons_zero, Option.some.injEq] at h
    subst h
    simp only [crashFs, hf]
    rw [crashFs_other l _ _ (List.nodup_cons.1 hn).1, aget_put_same]
    rfl
  | j :: l, k, fs, q + 1, f, hn, h, hf => by
    simp only [List.getElem?_cons_succ] at h
    have hne : i ≠ j := fun e => (List.nodup_cons.1 hn).1 (e ▸ List.mem_of_getElem? h)
    simp only [crashFs]
    rw [show k + (q + 1) = k + 1 + q by omega]
    refine crashFs_at l (k + 1) _ (List.nodup_cons.1 hn).2 h ?_
    cases hj : aget fs j with
    | none => exact hf
    | some f' => rw [← hf]; exact aget_put_other _ _ hne
theorem Fl.crashed_fine {f : Fl} (h : f.syn ≤ f.b.length) (picks : List Int) (k : Nat) : (f.crashed picks k).id = f.id ∧ (f.crashed picks k).syn ≤ (f.crashed picks k).b.length ∧ (f.crashed picks k).b.length ≤ f.b.length := by
  refine ⟨rfl, Nat.le_refl _, ?_⟩
  show (f.b.take _).length ≤ _
  simp
  omega
theorem crashFs_fine {P : Nat → Fl → Prop} (hP : ∀ i f picks k, P i f → P i (f.crashed picks k)) : ∀ (l : List Nat) (k : Nat) (fs : List (Nat × Fl)), (∀ i f, aget fs i = some f → P i f) → ∀ i f, aget (crashFs picks k l fs) i = some f → P i f
  | [], _, _, h => h
  | j :: l, k, fs, h => by
    refine crashFs_fine hP l _ _ fun i f hf => ?_
    cases hj : aget fs j with
    | none => simp only [hj] at hf; exact h i f hf
    | some f' =>
      simp only [hj] at hf
      by_cases e : i = j
      · subst e; rw [aget_put_same] at hf; cases hf; exact hP _ _ _ _ (h _ _ hj)
      · rw [aget_put_other _ _ e] at hf; exact h i f hf
theorem Dk.ok.crash (h : d.ok) (picks : List Int) : (d.crash picks).ok := by
  have h1 := applyAll_props (cs := d.changes.take (pickN picks 0 d.changes.length)) (l := d.kept) (S := fun i => i ∈ keysOf d.fs) h.knd h.kin fun c hc i hi => h.cin c (List.mem_of_mem_take hc) i hi
  have h2 := h.kl
  have h3 := h.fcl
  have h4 : (d.changes.take (pickN picks 0 d.changes.length)).length ≤ d.changes.length := by simp; omega
  have h5 := h1.2.2
  refine ⟨⟨h.room, ?_, ?_, h1.1, h1.1, ?_, ?_, ?_⟩, h3, ?_, ?_, Nat.zero_le _⟩
  · show (keysOf (crashFs _ _ _ _)).Pairwise _ ∧ ∀ i ∈ keysOf (crashFs _ _ _ _), _; rw [crashFs_keys]; exact h.ids
  · exact crashFs_fine (P := fun i f => f.id = i ∧ f.syn ≤ f.b.length ∧ f.b.length ≤ 4194304) (fun i f picks k hf => by
      have := Fl.crashed_fine hf.2.1 picks k
      exact ⟨this.1.trans hf.1, this.2.1, Nat.le_trans this.2.2 hf.2.2⟩) _ _ _ h.fid
  · intro x hx; show _ ∈ keysOf (crashFs _ _ _ _); rw [crashFs_keys]; exact h1.2.1 x hx
  · intro x hx; show _ ∈ keysOf (crashFs _ _ _ _); rw [crashFs_keys]; exact h1.2.1 x hx
  · intro c hc; simp [Dk.crash] at hc
  · show (applyAll _ _).length ≤ d.calls; omega
  · show (applyAll _ _).length + 0 ≤ d.calls; omega
end Go.Proofs.YtmnfehbnjgmgjaaDoor
