/- Views of the statements: the plain laws. -/
import Derived.Test.YtkogkokmcmallaaGreatDoorWn
import Derived.Test.YtkogkokmcmallaaGreatDoorWi
import Derived.Test.YtkogkokmcmallaaGreatDoorWq
import Derived.Test.YtkogkokmcmallaaGreatDoorSw
namespace Go.Proofs.YtkogkokmcmallaaGreatDoor
set_option linter.all false
variable {V : Vw} {b : Nat → Nat} {N : Nat}

theorem Vw.top_app (V : Vw) {k : Int} {i : Itm} (h : 0 ≤ k) : Vw.top (V ++ [(k, i)]) = max V.top (k + 1) := by
  induction V with
  | nil => simp only [List.nil_append, Vw.top]; omega
  | cons x V ih => simp only [List.cons_append, Vw.top, ih]; omega
theorem Vw.top_keys : ∀ {V V' : Vw}, keysOf V = keysOf V' → V.top = V'.top
  | [], [], _ => rfl
  | [], _ :: _, h => by simp [keysOf] at h
  | _ :: _, [], h => by simp [keysOf] at h
  | x :: V, y :: V', h => by
    simp only [keysOf, List.map_cons, List.cons.injEq] at h
    simp only [Vw.top, h.1, Vw.top_keys (V := V) (V' := V') h.2]
/-- The manifests of segments that are in some states. -/
def Vw.inB (V : Vw) (l : List Int) : List Mf := (V.filter fun x => hasI l x.2.st).map fun x => x.2.m
/-- Segments of the statements alone. -/
structure OnV (b : Nat → Nat) (N : Nat) (V : Vw) : Prop where
  nd : (keysOf V).Nodup
  all : ∀ k i, aget V k = some i → ∃ id : Nat, id < N ∧ k = id ∧ i.m = oneM id (b id) ∧ 1 ≤ i.st ∧ i.st ≤ 4
theorem OnV.nil : OnV b N [] := ⟨List.nodup_nil, fun k i h => by cases h⟩
theorem OnV.put (h : OnV b N V) {id : Nat} (hid : id < N) {s : Int} (hs : 1 ≤ s ∧ s ≤ 4) : OnV b N (aput V (id : Int) ⟨s, oneM id (b id)⟩) := by
  refine ⟨nodup_put h.nd _ _, fun k i hk => ?_⟩
  by_cases e : k = (id : Int)
  · subst e
    rw [aget_put_same] at hk
    cases hk
    exact ⟨id, hid, rfl, rfl, hs⟩
  · rw [aget_put_other _ _ e] at hk
    exact h.all k i hk
theorem OnV.state (h : OnV b N V) {id : Nat} (hs : V.state id = 0) : aget V (id : Int) = none := by
  cases hV : aget V (id : Int) with
  | none => rfl
  | some i =>
    obtain ⟨j, _, _, _, h1, _⟩ := h.all _ _ hV
    simp [Vw.state, hV] at hs
    omega
theorem OnV.len (h : OnV b N V) : V.length ≤ N := by
  have h1 : (keysOf V).length ≤ ((List.range N).map fun i : Nat => (i : Int)).length := by
    refine List.Nodup.length_le_of_subset h.nd fun k hk => ?_
    obtain ⟨i, hi⟩ := al_of_key hk
    obtain ⟨id, h1, rfl, _⟩ := h.all _ _ hi
    exact List.mem_map.2 ⟨id, List.mem_range.2 h1, rfl⟩
  simpa [keysOf] using h1
theorem OnV.apply (h : OnV b N V) {id : Nat} (hid : id < N) (hN : N ≤ 4000) (hF : mfF (oneM id (b id)) = (0, none)) {k : Int} (hk : 1 ≤ k ∧ k ≤ 4) :
    V.apply k (oneM id (b id)) = if nextB (V.state id) k = true then ((0, none), aput V (id : Int) ⟨k, oneM id (b id)⟩) else ((113, none), V) := by
  have h0 : (mfF (oneM id (b id))).1 = 0 := by rw [hF]
  have hi : (oneM id (b id)).id = (id : Int) := rfl
  have hl := h.len
  split
  · rename_i hn
    cases hV : aget V (id : Int) with
    | none => rw [Vw.apply_new h0 (by omega) (by rw [hi]; exact hn) (by rw [hi]; exact hV), if_neg (by omega), hi]
    | some i =>
      obtain ⟨j, _, hj, hm, _⟩ := h.all _ _ hV
      obtain rfl : id = j := by omega
      rw [Vw.apply_old h0 (by omega) (by rw [hi]; exact hn) (by rw [hi]; exact hV), if_pos hm, hi]
  · rename_i hn
    rw [Vw.apply_state h0 (by omega) (by rw [hi]; simpa using hn)]
theorem OnV.mem (h : OnV b N V) {x : Int × Itm} (hx : x ∈ V) : ∃ id : Nat, id < N ∧ x.1 = id ∧ x.2.m = oneM id (b id) ∧ 1 ≤ x.2.st ∧ x.2.st ≤ 4 := h.all _ _ (mem_aget h.nd hx)
theorem OnV.ids (h : OnV b N V) (l : List Int) : ((V.inB l).map Mf.id).Nodup := by
  have e : (V.inB l).map Mf.id = (V.filter fun x => hasI l x.2.st).map Prod.fst := by
    rw [Vw.inB, List.map_map]
    refine List.map_congr_left fun x hx => ?_
    obtain ⟨id, _, h1, h2, _⟩ := h.mem ((List.mem_filter.1 hx).1)
    show x.2.m.id = x.1
    rw [h2, h1]; rfl
  rw [e]
  exact h.nd.sublist (List.filter_sublist.map _)
/-- What is listed rises; the IDs fall. -/
theorem OnV.rise (h : OnV b N V) (hb : ∀ i j, i < N → j < N → i < j → b j < b i) {l : List Int} {ms : List Mf} (hp : ms.Perm (V.inB l)) (hs : ms.Pairwise fun x y => ¬ cmpM y x < 0) {k : Nat} {x y : Mf} (hx : ms[k]? = some x) (hy : ms[k + 1]? = some y) : x.base < y.base ∧ y.id < x.id := by
  have hn : (ms.map Mf.id).Nodup := (hp.map Mf.id).nodup_iff.2 (h.ids l)
  obtain ⟨h1, e1⟩ := List.getElem?_eq_some_iff.1 hx
  obtain ⟨h2, e2⟩ := List.getElem?_eq_some_iff.1 hy
  have hc := List.pairwise_iff_getElem.1 hs k (k + 1) h1 h2 (Nat.lt_succ_self k)
  rw [e1, e2, cmpM_neg] at hc
  have hof : ∀ z ∈ ms, ∃ id : Nat, id < N ∧ z = oneM id (b id) := fun z hz => by
    obtain ⟨u, hu, rfl⟩ := List.mem_map.1 (hp.mem_iff.1 hz)
    obtain ⟨id, h1, _, h2, _⟩ := h.mem ((List.mem_filter.1 hu).1)
    exact ⟨id, h1, h2⟩
  obtain ⟨i, hi, rfl⟩ := hof x (List.mem_of_getElem? hx)
  obtain ⟨j, hj, rfl⟩ := hof y (List.mem_of_getElem? hy)
  have hne : i ≠ j := fun e => by
    subst e
    have g1 : (ms.map Mf.id)[k]? = some (oneM i (b i)).id := by rw [List.getElem?_map, hx, Option.map_some]
    have g2 : (ms.map Mf.id)[k + 1]? = some (oneM i (b i)).id := by rw [List.getElem?_map, hy, Option.map_some]
    obtain ⟨q1, r1⟩ := List.getElem?_eq_some_iff.1 g1
    obtain ⟨q2, r2⟩ := List.getElem?_eq_some_iff.1 g2
    have := (List.getElem_inj hn).1 (r1.trans r2.symm)
    omega
  simp only [oneM] at hc ⊢
  rcases Nat.lt_or_ge i j with h3 | h3
  · have := hb i j hi hj h3; omega
  · have := hb j i hj hi (by omega); omega
/-- As many as are in a state. -/
theorem OnV.count (h : OnV b N V) (s : Int) (hs : s ≠ 0) : (V.inB [s]).length = ((List.range N).filter fun k : Nat => decide (V.state k = s)).length := by
  have hp : ((V.filter fun x => hasI [s] x.2.st).map Prod.fst).Perm (((List.range N).filter fun k : Nat => decide (V.state k = s)).map fun k : Nat => (k : Int)) := by
    refine (List.perm_ext_iff_of_nodup (h.nd.sublist (List.filter_sublist.map _)) ?_).2 fun k => ?_
    · exact List.pairwise_map.2 ((List.nodup_range.sublist List.filter_sublist).imp fun {x y} (h : x ≠ y) e => h (Int.ofNat.inj e))
    · simp only [List.mem_map, List.mem_filter, List.mem_range, decide_eq_true_eq, hasI, List.any_cons, List.any_nil, Bool.or_false]
      constructor
      · rintro ⟨x, ⟨hx, hst⟩, rfl⟩
        obtain ⟨id, h1, h2, _⟩ := h.mem hx
        refine ⟨id, ⟨h1, ?_⟩, h2.symm⟩
        have := mem_aget h.nd hx
        rw [h2] at this
        simp [Vw.state, this, hst]
      · rintro ⟨id, ⟨h1, h2⟩, rfl⟩
        cases hV : aget V (id : Int) with
        | none => simp [Vw.state, hV] at h2; exact absurd h2.symm hs
        | some i =>
          simp [Vw.state, hV] at h2
          exact ⟨((id : Int), i), ⟨aget_mem hV, h2.symm⟩, rfl⟩
  have := hp.length_eq
  simpa [Vw.inB] using this
/-- All that there are. -/
theorem OnV.all4 (h : OnV b N V) : (V.inB [1, 2, 3, 4]).length = V.length := by
  rw [Vw.inB, List.length_map, List.filter_eq_self.2]
  intro x hx
  obtain ⟨_, _, _, _, h1, h2⟩ := h.mem hx
  simp only [hasI, List.any_cons, List.any_nil, Bool.or_eq_true, decide_eq_true_eq, Bool.or_false]
  omega
theorem Vw.inB_nil (V : Vw) : V.inB [] = [] := by simp [Vw.inB, hasI]
end Go.Proofs.YtkogkokmcmallaaGreatDoor
