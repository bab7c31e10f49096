/- The law SweepKeeps: what a segment refers to stays; once it does not, it goes. -/
import Derived.Test.YtkogkokmcmallaaGreatDoorSF
namespace Go.Proofs.YtkogkokmcmallaaGreatDoor
set_option linter.all false
open Go.RowKit
attribute [local irreducible] errV
variable {g w : World} {L M : List HP} {ad : Nat → Addr} {p q pv : Nat} {V : Vw} {st a b : St} {own_ : Int} {K : List ByteArray} {U : List Int}

def Fin_ (V : Vw) (o : Int) (st : St) : Prop := (∀ n ∈ keysOf st.objs, preB bPre n = true → V.refers n = true) ∧ ∀ i ∈ keysOf st.ups, i = o
theorem kstep (h : SwI V own_ K U a) (hK : K.Nodup) (hU : U.Nodup) {t c n i : Nat} {is : Bool} (hsw : Swept V own_ t a b is c) (h0 : a.script = []) (hd : cnt a + i ≤ n ∨ Fin_ V own_ a) : c = 0 ∧ SwI V own_ K U b ∧ b.script = [] ∧ (cnt b + (i + 1) ≤ n ∨ Fin_ V own_ b) := by
  obtain ⟨h1, h2, h3, h4, h5⟩ := h.step hK hU hsw
  have hb : b.script = [] := List.eq_nil_of_length_eq_zero (by have := hsw.eats.sc; rw [h0] at this; simpa using this)
  rcases h5 with ⟨hi, hc, h6⟩ | ⟨hi, hc, h6⟩ | ⟨hi, hc, h6, h7⟩
  · refine ⟨hc, h1, hb, ?_⟩
    rcases hd with hd | hd
    · exact .inl (by omega)
    · exfalso
      rcases hsw.how with ⟨_, _, hw⟩ | ⟨e, _⟩ | ⟨e, _⟩
      · cases hw with
        | obj m hm hr hp _ _ => rw [hd.1 m hm hp] at hr; cases hr
        | up j hj hne _ _ => exact hne (hd.2 j hj)
      · rw [hi] at e; cases e
      · rw [hi] at e; cases e
  · rw [h0] at h6; simp at h6
  · exact ⟨hc, h1, hb, .inr ⟨h6, h7⟩⟩
/-- Segments of the statements alone. -/
structure On4 (V : Vw) : Prop where
  nd : (keysOf V).Nodup
  all : ∀ k i, aget V k = some i → ∃ id : Nat, id < 4 ∧ k = id ∧ i.m = oneM id (10 * id)
theorem on4_made (l : List Int) : On4 (madeV l 4) := by
  refine ⟨?_, fun k i h => ?_⟩
  · suffices h : ∀ n, (keysOf (madeV l n)).Nodup from h 4
    intro n
    induction n with
    | zero => simp [madeV, keysOf]
    | succ n ih =>
      rw [madeV_next]
      by_cases h0 : stN l n = 0
      · rw [if_pos h0, List.append_nil]; exact ih
      · rw [if_neg h0, ← al_end (madeV_fresh l n)]; exact nodup_put ih _ _
  · have hk : ∃ id : Nat, k = id := by
      obtain ⟨j, _, h2⟩ := List.mem_filterMap.1 (aget_mem h)
      split at h2
      · cases h2
      · cases h2; exact ⟨j, rfl⟩
    obtain ⟨id, rfl⟩ := hk
    rw [aget_made] at h
    split at h
    · rename_i h1; cases h; exact ⟨id, h1.1, rfl, rfl⟩
    · cases h
theorem On4.put (h : On4 V) {id : Nat} (hid : id < 4) (s : Int) : On4 (aput V (id : Int) ⟨s, oneM id (10 * id)⟩) := by
  refine ⟨nodup_put h.nd _ _, fun k i hk => ?_⟩
  by_cases e : k = (id : Int)
  · subst e
    rw [aget_put_same] at hk
    cases hk
    exact ⟨id, hid, rfl, rfl⟩
  · rw [aget_put_other _ _ e] at hk
    exact h.all k i hk
theorem kname {i q j r : Nat} (hi : i < 4) (hq : q < 2) (hj : j < 4) (hr : r < 2) (h : objNm i (kindB q) (10 * i) = objNm j (kindB r) (10 * j)) : i = j := by
  have h1 := names23 i (by omega) j (by omega)
  have h2 := names23 j (by omega) i (by omega)
  obtain rfl | rfl : q = 0 ∨ q = 1 := by omega
  · obtain rfl | rfl : r = 0 ∨ r = 1 := by omega
    · exact h1.2.1 h
    · exact absurd h h1.1
  · obtain rfl | rfl : r = 0 ∨ r = 1 := by omega
    · exact absurd h.symm h2.1
    · exact h1.2.2 h
theorem On4.refers (h : On4 V) {k : Nat} (hk : k < 4) {q : Nat} (hq : q < 2) : V.refers (objNm k (kindB q) (10 * k)) = (decide (V.state (k : Int) = 1) || decide (V.state (k : Int) = 2)) := by
  refine Bool.eq_iff_iff.2 ⟨fun hr => ?_, fun hst => ?_⟩
  · obtain ⟨x, hx, hr⟩ := Vw.refers_iff.1 hr
    have hV := mem_aget h.nd hx
    obtain ⟨id, h1, h2, h3⟩ := h.all _ _ hV
    simp only [refersB, Bool.and_eq_true] at hr
    obtain ⟨u, hu, he⟩ := List.any_eq_true.1 hr.2
    have he := of_decide_eq_true he
    rw [h3] at hu
    simp only [Mf.names, oneM, List.map_cons, List.map_nil, List.mem_cons, List.not_mem_nil, or_false] at hu
    have e : k = id := by
      rcases hu with rfl | rfl
      · exact kname hk hq h1 (r := 0) (by decide) he.symm
      · exact kname hk hq h1 (r := 1) (by decide) he.symm
    subst e
    rw [h2] at hV
    simp only [Vw.state, hV, Option.elim]
    exact hr.1
  · cases hV : aget V (k : Int) with
    | none => simp [Vw.state, hV] at hst
    | some i =>
      obtain ⟨id, h1, h2, h3⟩ := h.all _ _ hV
      obtain rfl : k = id := by omega
      refine Vw.refers_iff.2 ⟨_, aget_mem hV, ?_⟩
      simp only [Vw.state, hV, Option.elim] at hst
      simp only [refersB, hst, Bool.true_and]
      rw [h3]
      refine List.any_eq_true.2 ⟨objNm k (kindB q) (10 * k), ?_, decide_eq_true rfl⟩
      obtain rfl | rfl : q = 0 ∨ q = 1 := by omega
      · simp [Mf.names, oneM, kindB]
      · simp [Mf.names, oneM, kindB]
theorem state_putK (V : Vw) (id : Nat) (i : Itm) (j : Nat) : Vw.state (aput V (id : Int) i) (j : Int) = if j = id then i.st else V.state (j : Int) := by
  by_cases e : j = id
  · subst e; simp [Vw.state, aget_put_same]
  · rw [if_neg e]; simp only [Vw.state]; rw [aget_put_other _ _ (by omega)]
/-- What is put: two names a segment. -/
def kO (k : Nat) : List (ByteArray × List UInt8) := (List.range k).flatMap fun id => [(objNm id (kindB 0) (10 * id), []), (objNm id (kindB 1) (10 * id), [])]
theorem kO_next : ∀ k, k < 4 → aput (aput (kO k) (objNm k (kindB 0) (10 * k)) []) (objNm k (kindB 1) (10 * k)) [] = kO (k + 1) := by decide +kernel
def k8 : List ByteArray := keysOf (kO 4)
theorem k8_nodup : k8.Nodup := by decide +kernel
theorem k8_len : k8.length = 8 := by decide +kernel
theorem k8_mem {y : ByteArray} : y ∈ k8 ↔ ∃ id q, id < 4 ∧ q < 2 ∧ y = objNm id (kindB q) (10 * id) := by
  simp only [k8, keysOf, kO, List.mem_map, List.mem_flatMap, List.mem_range]
  constructor
  · rintro ⟨x, ⟨id, hid, hx⟩, rfl⟩
    simp only [List.mem_cons, List.not_mem_nil, or_false] at hx
    rcases hx with rfl | rfl
    · exact ⟨id, 0, hid, by decide, rfl⟩
    · exact ⟨id, 1, hid, by decide, rfl⟩
  · rintro ⟨id, q, h1, h2, rfl⟩
    obtain rfl | rfl : q = 0 ∨ q = 1 := by omega
    · exact ⟨_, ⟨id, h1, List.mem_cons_self ..⟩, rfl⟩
    · exact ⟨_, ⟨id, h1, List.mem_cons_of_mem _ (List.mem_cons_self ..)⟩, rfl⟩
theorem kput {O : List (ByteArray × List UInt8)} {c : Nat} {st : St} (h : st = pS O c) {n : ByteArray} (hn : validB n.data.toList = true) : st.run (St.put1 n []) = (0, pS (aput O n []) (c + 1)) := by subst h; exact put_pS hn
theorem stays_nm {y : ByteArray} (h : y ∈ k8) : stays V y = V.refers y := by
  obtain ⟨id, q, h1, h2, rfl⟩ := k8_mem.1 h
  have : objNm id (kindB q) (10 * id) ≠ bOth := fun e => by
    have := (nmK id (by omega) q h2).2.1
    rw [e, both_pre] at this; cases this
  simp [stays, this]
theorem hasN_sort {l : List ByteArray} {y : ByteArray} : hasN (sortT l) y = true ↔ y ∈ l := by
  refine ⟨fun h => ?_, fun h => ?_⟩
  · obtain ⟨u, hu, he⟩ := List.any_eq_true.1 h
    obtain rfl := of_decide_eq_true he
    exact sortT_mem.1 hu
  · exact List.any_eq_true.2 ⟨y, sortT_mem.2 h, decide_eq_true rfl⟩
theorem len_filter (P : ByteArray → Bool) : ∀ l : List ByteArray, l.length = (l.filter P).length + (l.filter fun y => !P y).length
  | [] => rfl
  | x :: l => by
    have := len_filter P l
    rw [List.filter_cons, List.filter_cons]
    cases h : P x <;> simp <;> omega
/-- Where nobody refers to a segment any more, two names go. -/
theorem two_less (h : On4 V) {k : Nat} (hk : k < 4) {s : Int} {K : List ByteArray} (hK : K.Nodup) (hs : ∀ y ∈ K, y ∈ k8 ∧ V.refers y = true) : K.length ≤ (K.filter (stays (aput V (k : Int) ⟨s, oneM k (10 * k)⟩))).length + 2 := by
  have h1 : K.length = (K.filter (stays (aput V (k : Int) ⟨s, oneM k (10 * k)⟩))).length + (K.filter fun y => !stays (aput V (k : Int) ⟨s, oneM k (10 * k)⟩) y).length := len_filter _ K
  have h2 : (K.filter fun y => !stays (aput V (k : Int) ⟨s, oneM k (10 * k)⟩) y).length ≤ [objNm k (kindB 0) (10 * k), objNm k (kindB 1) (10 * k)].length := by
    refine List.Nodup.length_le_of_subset (hK.sublist List.filter_sublist) fun y hy => ?_
    obtain ⟨hyK, hyn⟩ := List.mem_filter.1 hy
    obtain ⟨hy8, hyr⟩ := hs y hyK
    rw [stays_nm hy8] at hyn
    obtain ⟨id, q, h3, h4, rfl⟩ := k8_mem.1 hy8
    rw [(h.put hk s).refers h3 h4, state_putK] at hyn
    rw [h.refers h3 h4] at hyr
    by_cases e : id = k
    · subst e
      obtain rfl | rfl : q = 0 ∨ q = 1 := by omega
      · exact List.mem_cons_self ..
      · exact List.mem_cons_of_mem _ (List.mem_cons_self ..)
    · rw [if_neg e, hyr] at hyn; simp at hyn
  simp only [List.length_cons, List.length_nil] at h2
  omega
end Go.Proofs.YtkogkokmcmallaaGreatDoor
