/- Sweeping to the end: the plain laws. -/
import Derived.Test.YtkogkokmcmallaaGreatDoorWt
namespace Go.Proofs.YtkogkokmcmallaaGreatDoor
set_option linter.all false
variable {V : Vw} {own_ : Int} {K : List ByteArray} {U : List Int} {a b : St}

def bOth : ByteArray := ⟨#[111, 116, 104, 101, 114]⟩
theorem both_pre : preB bPre bOth = false := by decide +kernel
theorem both_valid : validB bOth.data.toList = true := by decide +kernel
/-- What stays. -/
def stays (V : Vw) (x : ByteArray) : Bool := decide (x = bOth) || V.refers x
/-- A store that is being swept. -/
structure SwI (V : Vw) (own_ : Int) (K : List ByteArray) (U : List Int) (st : St) : Prop where
  ko : (keysOf st.objs).Sublist K
  ku : (keysOf st.ups).Sublist U
  keep : ∀ x ∈ K, stays V x = true → x ∈ keysOf st.objs
  keepU : ∀ i ∈ U, i = own_ → i ∈ keysOf st.ups
theorem SwI.nodup (h : SwI V own_ K U a) (hK : K.Nodup) (hU : U.Nodup) : (keysOf a.objs).Nodup ∧ (keysOf a.ups).Nodup := ⟨hK.sublist h.ko, hU.sublist h.ku⟩
def cnt (st : St) : Nat := st.objs.length + st.ups.length
theorem SwI.went (h : SwI V own_ K U a) (hK : K.Nodup) (hU : U.Nodup) (hw : Went V own_ a b) : SwI V own_ K U b ∧ cnt b + 1 = cnt a := by
  obtain ⟨hno, hnu⟩ := h.nodup hK hU
  cases hw with
  | obj n hn hr hp e e2 =>
    refine ⟨⟨?_, by rw [e2]; exact h.ku, fun x hx hst => ?_, fun i hi ho => by rw [e2]; exact h.keepU i hi ho⟩, ?_⟩
    · rw [e, keys_del hno]; exact List.filter_sublist.trans h.ko
    · rw [e, keys_del hno, List.mem_filter]
      refine ⟨h.keep x hx hst, decide_eq_true fun hxn => ?_⟩
      subst hxn
      simp only [stays, hr, Bool.or_false, decide_eq_true_eq] at hst
      subst hst
      rw [both_pre] at hp; cases hp
    · obtain ⟨v, hv⟩ := al_of_key hn
      have := al_del hv
      simp only [cnt, e, e2]; omega
  | up i hi hne e e2 =>
    refine ⟨⟨by rw [e2]; exact h.ko, ?_, fun x hx hst => by rw [e2]; exact h.keep x hx hst, fun j hj ho => ?_⟩, ?_⟩
    · rw [e, keys_del hnu]; exact List.filter_sublist.trans h.ku
    · rw [e, keys_del hnu, List.mem_filter]
      exact ⟨h.keepU j hj ho, decide_eq_true fun hji => hne (hji ▸ ho)⟩
    · obtain ⟨v, hv⟩ := al_of_key hi
      have := al_del hv
      simp only [cnt, e, e2]; omega
theorem SwI.idle (h : SwI V own_ K U a) (hw : Idle a b) : SwI V own_ K U b ∧ cnt b = cnt a := ⟨⟨by rw [hw.1]; exact h.ko, by rw [hw.2]; exact h.ku, fun x hx hs => by rw [hw.1]; exact h.keep x hx hs, fun i hi ho => by rw [hw.2]; exact h.keepU i hi ho⟩, by simp only [cnt, hw.1, hw.2]⟩
/-- What a step does to it. -/
theorem SwI.step (h : SwI V own_ K U a) (hK : K.Nodup) (hU : U.Nodup) {t c : Nat} {is : Bool} (hs : Swept V own_ t a b is c) : SwI V own_ K U b ∧ cnt b ≤ cnt a ∧ cnt a ≤ cnt b + 1 ∧ (c = 0 ∨ c = 111 ∧ is = false) ∧
    ((is = true ∧ c = 0 ∧ cnt b + 1 = cnt a) ∨ (is = false ∧ c = 111 ∧ b.script.length < a.script.length) ∨ (is = false ∧ c = 0 ∧ (∀ n ∈ keysOf b.objs, preB bPre n = true → V.refers n = true) ∧ ∀ i ∈ keysOf b.ups, i = own_)) := by
  rcases hs.how with ⟨rfl, rfl, hw⟩ | ⟨rfl, rfl, hw, hl⟩ | ⟨rfl, rfl, hw, h1, h2⟩
  · obtain ⟨h1, h2⟩ := h.went hK hU hw
    exact ⟨h1, by omega, by omega, .inl rfl, .inl ⟨rfl, rfl, h2⟩⟩
  · rcases hw with hw | hw
    · obtain ⟨h1, h2⟩ := h.idle hw
      exact ⟨h1, by omega, by omega, .inr ⟨rfl, rfl⟩, .inr (.inl ⟨rfl, rfl, hl⟩)⟩
    · obtain ⟨h1, h2⟩ := h.went hK hU hw
      exact ⟨h1, by omega, by omega, .inr ⟨rfl, rfl⟩, .inr (.inl ⟨rfl, rfl, hl⟩)⟩
  · obtain ⟨h3, h4⟩ := h.idle hw
    exact ⟨h3, by omega, by omega, .inl rfl, .inr (.inr ⟨rfl, rfl, by rw [hw.1]; exact h1, by rw [hw.2]; exact h2⟩)⟩
theorem sub_filter {α : Type} [DecidableEq α] {P : α → Bool} : ∀ {l K : List α}, l.Sublist K → K.Nodup → (∀ x ∈ K, x ∈ l ↔ P x = true) → l = K.filter P := by
  intro l K h
  induction h with
  | slnil => intros; rfl
  | cons y h ih =>
    rename_i l K
    intro hn hx
    rw [List.nodup_cons] at hn
    have hy : P y = false := by
      cases hp : P y with
      | false => rfl
      | true => exact absurd (h.subset ((hx y (List.mem_cons_self ..)).2 hp)) hn.1
    rw [List.filter_cons, hy]
    exact ih hn.2 fun x hxk => hx x (List.mem_cons_of_mem _ hxk)
  | cons_cons y h ih =>
    rename_i l K
    intro hn hx
    rw [List.nodup_cons] at hn
    have hy : P y = true := (hx y (List.mem_cons_self ..)).1 (List.mem_cons_self ..)
    rw [List.filter_cons, hy, if_pos rfl]
    refine congrArg _ (ih hn.2 fun x hxk => ?_)
    have hne : x ≠ y := fun e => hn.1 (e ▸ hxk)
    have := hx x (List.mem_cons_of_mem _ hxk)
    rw [← this]
    simp [hne]
/-- When there is nothing to do. -/
theorem SwI.done (h : SwI V own_ K U a) (hK : K.Nodup) (hU : U.Nodup) (hp : ∀ x ∈ K, x = bOth ∨ preB bPre x = true) (h1 : ∀ n ∈ keysOf a.objs, preB bPre n = true → V.refers n = true) (h2 : ∀ i ∈ keysOf a.ups, i = own_) :
    keysOf a.objs = K.filter (stays V) ∧ keysOf a.ups = U.filter fun i => decide (i = own_) := by
  refine ⟨sub_filter h.ko hK fun x hx => ⟨fun hm => ?_, fun hs => h.keep x hx hs⟩, sub_filter h.ku hU fun i hi => ⟨fun hm => decide_eq_true (h2 i hm), fun hs => h.keepU i hi (of_decide_eq_true hs)⟩⟩
  rcases hp x hx with rfl | hpre
  · simp [stays]
  · simp [stays, h1 x hm hpre]
theorem sortT_filter (l : List ByteArray) (P : ByteArray → Bool) : sortT (l.filter P) = (sortT l).filter P := by
  have ht : ∀ x y z : List UInt8, decide (x ≤ y) = true → decide (y ≤ z) = true → decide (x ≤ z) = true := fun x y z h1 h2 => by simp only [decide_eq_true_eq] at *; exact List.le_trans h1 h2
  have hl : ∀ x y : List UInt8, (decide (x ≤ y) || decide (y ≤ x)) = true := fun x y => by simp only [Bool.or_eq_true, decide_eq_true_eq]; exact List.le_total x y
  have e1 : ∀ m : List ByteArray, bytesOf (sortT m) = sortB (bytesOf m) := fun m => by simp [bytesOf, sortT, List.map_map, Function.comp_def]
  have p0 : ∀ m : List ByteArray, (sortT m).Perm m := fun m => by
    have h := (List.mergeSort_perm (bytesOf m) (fun x y => decide (x ≤ y))).map fun x : List UInt8 => (⟨x.toArray⟩ : ByteArray)
    have e : (bytesOf m).map (fun x : List UInt8 => (⟨x.toArray⟩ : ByteArray)) = m := by simp [bytesOf, List.map_map, Function.comp_def]
    rw [e] at h
    exact h
  have hs : (bytesOf ((sortT l).filter P)).Pairwise fun x y => decide (x ≤ y) = true := by
    have h1 : (bytesOf (sortT l)).Pairwise fun x y => decide (x ≤ y) = true := by rw [e1]; exact List.pairwise_mergeSort ht hl _
    exact h1.sublist (List.filter_sublist.map _)
  have h2 : sortB (bytesOf ((sortT l).filter P)) = bytesOf ((sortT l).filter P) := List.mergeSort_of_pairwise hs
  have h3 : sortB (bytesOf (l.filter P)) = sortB (bytesOf ((sortT l).filter P)) := perm_sortB (((p0 l).filter P).symm.map _)
  simp only [sortT]
  rw [h3, h2]
  simp [bytesOf, List.map_map, Function.comp_def, sortT]
end Go.Proofs.YtkogkokmcmallaaGreatDoor
