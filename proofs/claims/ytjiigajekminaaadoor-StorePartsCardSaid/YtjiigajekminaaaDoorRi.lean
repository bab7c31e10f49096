/- Texts in order: lists that rise strictly; what Rising computes is what Sorted does. -/
import Derived.Test.YtjiigajekminaaaDoorNm
namespace Go.Proofs.YtjiigajekminaaaDoor
set_option linter.all false
open Go.RowKit

abbrev bl (x : ByteArray) : List UInt8 := x.data.toList
theorem bl_inj {x y : ByteArray} (h : bl x = bl y) : x = y := by
  cases x; cases y
  simp only [ByteArray.mk.injEq]
  exact Array.toList_inj.1 h
theorem lt_at {x : Nat} {u v : UInt8} (hne : u ≠ v) : ∀ {a b : List UInt8} {x : Nat}, a.take x = b.take x → a[x]? = some u → b[x]? = some v → (a < b ↔ u < v)
  | [], _, _, _, h, _ => by simp at h
  | _ :: _, [], _, _, _, h => by simp at h
  | c :: a, d :: b, 0, _, ha, hb => by
    simp only [List.getElem?_cons_zero, Option.some.injEq] at ha hb
    subst ha hb
    rw [List.cons_lt_cons_iff]
    exact ⟨fun h => h.elim id fun h => absurd h.1 hne, .inl⟩
  | c :: a, d :: b, x + 1, h, ha, hb => by
    simp only [List.take_succ_cons, List.cons.injEq] at h
    simp only [List.getElem?_cons_succ] at ha hb
    obtain ⟨rfl, h⟩ := h
    rw [List.cons_lt_cons_iff, ← lt_at (x := x) hne h ha hb]
    exact ⟨fun h => h.elim (fun h => absurd h (UInt8.lt_irrefl _)) fun h => h.2, fun h => .inr ⟨rfl, h⟩⟩
theorem lt_end : ∀ {a b : List UInt8} {x : Nat}, a.take x = b.take x → x ≤ a.length → x ≤ b.length → (x = a.length ∨ x = b.length) → (a < b ↔ a.length < b.length)
  | [], [], _, _, _, _, _ => by simp
  | [], d :: b, _, _, _, _, _ => by simp [List.nil_lt_cons]
  | c :: a, [], _, _, _, _, _ => by simp
  | c :: a, d :: b, 0, _, _, _, h => by simp at h
  | c :: a, d :: b, x + 1, h, h1, h2, h3 => by
    simp only [List.take_succ_cons, List.cons.injEq] at h
    obtain ⟨rfl, h⟩ := h
    simp only [List.length_cons] at h1 h2 h3 ⊢
    rw [List.cons_lt_cons_iff, Nat.add_lt_add_iff_right, ← lt_end h (by omega) (by omega) (by omega)]
    exact ⟨fun h => h.elim (fun h => absurd h (UInt8.lt_irrefl _)) fun h => h.2, fun h => .inr ⟨rfl, h⟩⟩

/-- It rises strictly. -/
def Risen (l : List ByteArray) : Prop := l.Pairwise fun a b => bl a < bl b
def cntT (out : List ByteArray) (x : ByteArray) : Nat := (out.takeWhile fun y => decide (bl y < bl x)).length
def insT (out : List ByteArray) (x : ByteArray) : List ByteArray := if out[cntT out x]? = some x then out else out.take (cntT out x) ++ x :: out.drop (cntT out x)
theorem cnt_cons (a : ByteArray) (out : List ByteArray) (x : ByteArray) : cntT (a :: out) x = if bl a < bl x then cntT out x + 1 else 0 := by
  unfold cntT
  rw [List.takeWhile_cons]
  by_cases h : bl a < bl x <;> simp [h]
theorem cnt_le (x : ByteArray) : ∀ out : List ByteArray, cntT out x ≤ out.length
  | [] => Nat.le_refl _
  | a :: out => by
    have := cnt_le x out
    rw [cnt_cons]
    split <;> simp <;> omega
theorem cnt_lt {x : ByteArray} : ∀ {out : List ByteArray} {k : Nat} {y : ByteArray}, k < cntT out x → out[k]? = some y → bl y < bl x
  | [], _, _, h, _ => by simp [cntT] at h
  | a :: out, k, y, h, hy => by
    rw [cnt_cons] at h
    split at h
    · rename_i ha
      cases k with
      | zero => simp at hy; rw [← hy]; exact ha
      | succ k => exact cnt_lt (out := out) (k := k) (by omega) (by simpa using hy)
    · omega
theorem cnt_at {x : ByteArray} : ∀ {out : List ByteArray} {y : ByteArray}, out[cntT out x]? = some y → ¬ bl y < bl x
  | [], _, h => by simp at h
  | a :: out, y, h => by
    rw [cnt_cons] at h
    split at h
    · exact cnt_at (by simpa using h)
    · rename_i ha
      simp at h; rw [← h]; exact ha
def insR : List ByteArray → ByteArray → List ByteArray
  | [], x => [x]
  | a :: out, x => if bl a < bl x then a :: insR out x else if a = x then a :: out else x :: a :: out
theorem ins_eq (x : ByteArray) : ∀ out, insT out x = insR out x
  | [] => by simp [insT, cntT, insR]
  | a :: out => by
    have ih := ins_eq x out
    unfold insT insR
    rw [cnt_cons]
    by_cases h : bl a < bl x
    · rw [if_pos h, if_pos h, ← ih]
      unfold insT
      simp only [List.getElem?_cons_succ, List.take_succ_cons, List.drop_succ_cons]
      split <;> simp
    · rw [if_neg h, if_neg h]
      simp only [List.getElem?_cons_zero, Option.some.injEq, List.take_zero, List.drop_zero, List.nil_append]
theorem insR_mem (x y : ByteArray) : ∀ out, y ∈ insR out x ↔ y = x ∨ y ∈ out
  | [] => by simp [insR]
  | a :: out => by
    have ih := insR_mem x y out
    unfold insR
    split
    · simp only [List.mem_cons, ih]
      exact ⟨fun h => h.elim (fun h => .inr (.inl h)) fun h => h.elim .inl fun h => .inr (.inr h), fun h => h.elim (fun h => .inr (.inl h)) fun h => h.elim .inl fun h => .inr (.inr h)⟩
    · split
      · rename_i h; subst h
        simp only [List.mem_cons]
        exact ⟨fun h => .inr h, fun h => h.elim .inl id⟩
      · simp only [List.mem_cons]
theorem lt_of_not {a x : ByteArray} (h : ¬ bl a < bl x) (hne : a ≠ x) : bl x < bl a := by
  have h1 : bl x ≤ bl a := List.not_lt.1 h
  exact Classical.byContradiction fun h2 => hne (bl_inj (List.le_antisymm (List.not_lt.1 h2) h1))
theorem insR_risen {x : ByteArray} : ∀ {out : List ByteArray}, Risen out → Risen (insR out x)
  | [], _ => by simp [insR, Risen]
  | a :: out, h => by
    obtain ⟨h1, h2⟩ := List.pairwise_cons.1 h
    unfold insR
    split
    · rename_i ha
      refine List.pairwise_cons.2 ⟨fun y hy => ?_, insR_risen h2⟩
      rcases (insR_mem x y out).1 hy with rfl | hy
      · exact ha
      · exact h1 y hy
    · rename_i ha
      split
      · exact h
      · rename_i hne
        have hx := lt_of_not ha hne
        refine List.pairwise_cons.2 ⟨fun y hy => ?_, h⟩
        rcases List.mem_cons.1 hy with rfl | hy
        · exact hx
        · exact List.lt_trans hx (h1 y hy)
def riseT (l : List ByteArray) : List ByteArray := l.foldl insT []
theorem rise_succ {l : List ByteArray} {i : Nat} {x : ByteArray} (h : l[i]? = some x) : riseT (l.take (i + 1)) = insT (riseT (l.take i)) x := by
  unfold riseT
  rw [List.take_add_one, h]
  simp
theorem fold_risen : ∀ (l out : List ByteArray), Risen out → Risen (l.foldl insT out) ∧ ∀ y, y ∈ l.foldl insT out ↔ y ∈ out ∨ y ∈ l
  | [], out, h => ⟨h, fun y => by simp⟩
  | x :: l, out, h => by
    have h1 := insR_risen (x := x) h
    rw [← ins_eq] at h1
    obtain ⟨h2, h3⟩ := fold_risen l (insT out x) h1
    refine ⟨h2, fun y => ?_⟩
    simp only [List.foldl_cons, h3, List.mem_cons]
    rw [ins_eq, insR_mem]
    exact ⟨fun h => h.elim (fun h => h.elim (fun h => .inr (.inl h)) .inl) fun h => .inr (.inr h), fun h => h.elim (fun h => .inl (.inr h)) fun h => h.elim (fun h => .inl (.inl h)) .inr⟩
theorem rise_risen (l : List ByteArray) : Risen (riseT l) := (fold_risen l [] (by simp [Risen])).1
theorem rise_mem (l : List ByteArray) (y : ByteArray) : y ∈ riseT l ↔ y ∈ l := by have := (fold_risen l [] (by simp [Risen])).2 y; simpa [riseT] using this
theorem rise_len (l : List ByteArray) : ∀ i, i ≤ l.length → (riseT (l.take i)).length ≤ i
  | 0, _ => by simp [riseT]
  | i + 1, h => by
    have ih := rise_len l i (by omega)
    rw [rise_succ (x := l[i]'(by omega)) (List.getElem?_eq_getElem _)]
    unfold insT
    split
    · omega
    · have := cnt_le (l[i]'(by omega)) (riseT (l.take i))
      simp only [List.length_append, List.length_cons, List.length_take, List.length_drop]
      omega
theorem risen_nodup {l : List ByteArray} (h : Risen l) : l.Nodup := h.imp fun h e => by rw [e] at h; exact List.lt_irrefl _ h
theorem bytesOf_nodup {l : List ByteArray} (h : l.Nodup) : (bytesOf l).Nodup := by
  unfold bytesOf
  rw [List.Nodup, List.pairwise_map]
  exact h.imp fun h e => h (bl_inj e)
/-- What rises, and has these members, is they in order. -/
theorem sortT_rise {l ks : List ByteArray} (h : Risen l) (hn : ks.Nodup) (hm : ∀ x, x ∈ l ↔ x ∈ ks) : sortT ks = l := by
  have hp : l.Perm ks := (List.perm_ext_iff_of_nodup (risen_nodup h) hn).2 hm
  have e1 : sortB (bytesOf ks) = sortB (bytesOf l) := (perm_sortB (hp.map _)).symm
  have e2 : sortB (bytesOf l) = bytesOf l := by
    unfold sortB
    refine List.mergeSort_of_pairwise ?_
    unfold bytesOf
    rw [List.pairwise_map]
    exact h.imp fun h => decide_eq_true (List.le_of_lt h)
  unfold sortT
  rw [e1, e2]
  simp [bytesOf, List.map_map, Function.comp_def]
theorem mem_sortT {l : List ByteArray} {x : ByteArray} : x ∈ sortT l ↔ x ∈ l := by
  unfold sortT sortB bytesOf
  simp only [List.mem_map, List.mem_mergeSort]
  constructor
  · rintro ⟨_, ⟨a, ha, rfl⟩, rfl⟩
    simpa using ha
  · intro h
    exact ⟨x.data.toList, ⟨x, h, rfl⟩, rfl⟩
end Go.Proofs.YtjiigajekminaaaDoor
