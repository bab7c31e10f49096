/- Manifests: the plain model. -/
import Derived.Test.YtkogkokmcmallaaGreatDoorKr
import Derived.Test.YtkogkokmcmallaaGreatDoorZa
namespace Go.Proofs.YtkogkokmcmallaaGreatDoor
set_option linter.all false

abbrev Pr := Int × Int
abbrev Ob := ByteArray × Int × Nat
structure Mf where
  id : Int
  base : Int
  fin : Int
  time : Int
  eps : List Pr
  obs : List Ob
deriving DecidableEq
def Mf.z : Mf := ⟨0, 0, 0, 0, [], []⟩
def prL (p : Pr) : List Value := [.int .i64 p.1, .int .i64 p.2]
def obL (o : Ob) : List Value := [.string o.1, .int .i64 o.2.1, .int .u32 o.2.2]
abbrev SA := Option Addr × Nat
def mfL (x : Mf) (e o : SA) : List Value := [.int .i64 x.id, .int .i64 x.base, .int .i64 x.fin, .int .i64 x.time, .slice e.1 x.eps.length e.2, .slice o.1 x.obs.length o.2]
/-! ### what is amiss: the error's number, its place -/
abbrev Flt := Nat × Option Nat
def rightN (n : Int) : Bool := decide (0 ≤ n) && decide (n ≤ 1099511627776)
def rightE (n : Int) : Bool := decide (0 ≤ n) && decide (n ≤ 1073741824)
def rightT (n : Int) : Bool := decide (-1099511627776 ≤ n) && decide (n ≤ 1099511627776)
def prOk (p : Pr) : Bool := rightE p.1 && rightN p.2
/-- The i-th pair stands behind the one ahead. -/
def risAt (l : List Pr) (i : Nat) : Bool := decide ((l.getD (i - 1) (0, 0)).1 < (l.getD i (0, 0)).1) && decide ((l.getD (i - 1) (0, 0)).2 < (l.getD i (0, 0)).2)
def ris (l : List Pr) : Bool := (List.range l.length).all fun i => i == 0 || risAt l i
theorem ris_iff {l : List Pr} : ris l = true ↔ ∀ i, 1 ≤ i → i < l.length → risAt l i = true := by
  simp only [ris, List.all_eq_true, List.mem_range, Bool.or_eq_true, beq_iff_eq]
  constructor
  · intro h i h1 h2
    rcases h i h2 with h | h
    · omega
    · exact h
  · intro h i h2
    rcases Nat.eq_zero_or_pos i with h0 | h0
    · exact .inl h0
    · exact .inr (h i h0 h2)
theorem ris_no {l : List Pr} {i : Nat} (h1 : 1 ≤ i) (h2 : i < l.length) (h : risAt l i = false) : ris l = false := by
  cases hr : ris l with
  | false => rfl
  | true => rw [ris_iff.1 hr i h1 h2] at h; cases h
def epF (l : List Pr) : Nat := if 256 < l.length then 104 else if l.all prOk = false then 105 else if ris l = false then 103 else 0
def obBad (o : Ob) : Nat := if validB o.1.data.toList = false then 106 else if o.2.1 < 0 ∨ 1073741824 < o.2.1 then 105 else 0
def obF (l : List Ob) : Flt :=
  if l.length < 1 ∨ 8 < l.length then (104, none) else
  match l.findIdx? fun o => obBad o != 0 with
  | some i => (obBad (l.getD i (ByteArray.empty, 0, 0)), some i)
  | none => if (l.map Prod.fst).Nodup then (0, none) else (103, none)
theorem obF_bad {l : List Ob} {i : Nat} {o : Ob} (h0 : ¬ (l.length < 1 ∨ 8 < l.length)) (ho : l[i]? = some o) (hb : obBad o ≠ 0) (h : ∀ j, j < i → ∀ u, l[j]? = some u → obBad u = 0) : obF l = (obBad o, some i) := by
  obtain ⟨hi, he⟩ := List.getElem?_eq_some_iff.1 ho
  have : (l.findIdx? fun o => obBad o != 0) = some i := by
    rw [List.findIdx?_eq_some_iff_getElem]
    refine ⟨hi, by rw [he]; simpa using hb, fun j hj => ?_⟩
    have := h j hj _ (List.getElem?_eq_getElem (by omega))
    simp [this]
  simp only [obF, if_neg h0, this]
  rw [List.getD_eq_getElem?_getD, ho]
  rfl
theorem findIdx_none {l : List Ob} (h : ∀ (j : Nat) (u : Ob), l[j]? = some u → obBad u = 0) : (l.findIdx? fun o => obBad o != 0) = none := by
  rw [List.findIdx?_eq_none_iff]
  intro u hu
  obtain ⟨j, hj⟩ := List.mem_iff_getElem?.1 hu
  simp [h j u hj]
theorem obF_fine {l : List Ob} (h0 : ¬ (l.length < 1 ∨ 8 < l.length)) (h : ∀ (j : Nat) (u : Ob), l[j]? = some u → obBad u = 0) : obF l = if (l.map Prod.fst).Nodup then (0, none) else (103, none) := by
  simp only [obF, if_neg h0, findIdx_none h]
def rangeBad (x : Mf) : Bool := decide (x.id < 0) || decide (2147483647 < x.id) || !rightN x.base || !rightN x.fin || decide (x.time < -1099511627776) || decide (1099511627776 < x.time) || decide (x.fin ≤ x.base)
def shapeBad (x : Mf) : Bool := decide (x.eps.length = 0) || decide ((x.eps.getD 0 (0, 0)).2 ≠ x.base) || decide (x.fin ≤ (x.eps.getD (x.eps.length - 1) (0, 0)).2)
def mfF (x : Mf) : Flt :=
  if rangeBad x then (105, none) else if epF x.eps ≠ 0 then (epF x.eps, none) else if shapeBad x then (103, none) else obF x.obs
theorem obBad_code (o : Ob) : obBad o = 0 ∨ obBad o = 106 ∨ obBad o = 105 := by
  unfold obBad
  split
  · exact .inr (.inl rfl)
  · split
    · exact .inr (.inr rfl)
    · exact .inl rfl
theorem epF_code (l : List Pr) : epF l = 0 ∨ epF l = 104 ∨ epF l = 105 ∨ epF l = 103 := by
  unfold epF
  split
  · exact .inr (.inl rfl)
  · split
    · exact .inr (.inr (.inl rfl))
    · split
      · exact .inr (.inr (.inr rfl))
      · exact .inl rfl
/-- A fault's number is one of a few; a place stands by an error alone. -/
def FltOk (f : Flt) : Prop := (f = (0, none) ∨ f.1 ∈ [103, 104, 105, 106]) ∧ (f.2 = none ∨ f.1 ∈ [105, 106])
theorem obF_ok (l : List Ob) : FltOk (obF l) := by
  unfold obF
  split
  · exact ⟨.inr (by decide), .inl rfl⟩
  · split
    · rename_i i hi
      rw [List.findIdx?_eq_some_iff_getElem] at hi
      obtain ⟨hl, hb, _⟩ := hi
      have hg : l.getD i (ByteArray.empty, 0, 0) = l[i] := by rw [List.getD_eq_getElem?_getD, List.getElem?_eq_getElem hl]; rfl
      rw [hg]
      rcases obBad_code l[i] with h | h | h
      · simp [h] at hb
      · rw [h]; exact ⟨.inr (by simp), .inr (by simp)⟩
      · rw [h]; exact ⟨.inr (by simp), .inr (by simp)⟩
    · split
      · exact ⟨.inl rfl, .inl rfl⟩
      · exact ⟨.inr (by decide), .inl rfl⟩
theorem mfF_ok (x : Mf) : FltOk (mfF x) := by
  unfold mfF
  split
  · exact ⟨.inr (by decide), .inl rfl⟩
  · split
    · rename_i h
      refine ⟨.inr ?_, .inl rfl⟩
      rcases epF_code x.eps with e | e | e | e
      · exact absurd e h
      all_goals rw [e]; decide
    · split
      · exact ⟨.inr (by decide), .inl rfl⟩
      · exact obF_ok _
/-! ### a view -/
def nextB (s k : Int) : Bool := if k = 1 then decide (s = 0) else if k = 2 then decide (s = 1) else if k = 3 then decide (s = 1) || decide (s = 2) else if k = 4 then decide (s = 3) else false
structure Itm where
  st : Int
  m : Mf
deriving DecidableEq
abbrev Vw := List (Int × Itm)
def Vw.state (V : Vw) (id : Int) : Int := (aget V id).elim 0 Itm.st
def Vw.apply (V : Vw) (k : Int) (x : Mf) : Flt × Vw :=
  if (mfF x).1 ≠ 0 then (mfF x, V) else
  if k < 1 ∨ 4 < k then ((112, none), V) else
  if nextB (V.state x.id) k = false then ((113, none), V) else
  match aget V x.id with
  | none => if 4096 ≤ V.length then ((104, none), V) else ((0, none), aput V x.id ⟨k, x⟩)
  | some i => if i.m = x then ((0, none), aput V x.id ⟨k, x⟩) else ((103, none), V)
def Mf.names (x : Mf) : List ByteArray := x.obs.map Prod.fst
def hasN (l : List ByteArray) (n : ByteArray) : Bool := l.any fun x => decide (x = n)
def refersB (i : Itm) (n : ByteArray) : Bool := (decide (i.st = 1) || decide (i.st = 2)) && hasN i.m.names n
def Vw.refers (V : Vw) (n : ByteArray) : Bool := V.any fun x => refersB x.2 n
end Go.Proofs.YtkogkokmcmallaaGreatDoor
