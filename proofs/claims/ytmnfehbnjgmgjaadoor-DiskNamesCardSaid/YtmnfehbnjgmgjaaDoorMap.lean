/- Maps by their entries in order, over any program: what a map holds ('MapAt'), look-up, store, delete, length, and the plain laws of association lists. -/
import Derived.Test.YtmnfehbnjgmgjaaDoorOps
import Derived.MapKept
import Derived.Maps.OwnSet
namespace Go.Proofs.YtmnfehbnjgmgjaaDoor
set_option linter.all false
open Go.RowKit Go.MapKept
variable {P : Program} {κ : Type} {α β : Type}
section lists
variable [DecidableEq κ]

/-! ### association lists -/
def aget : List (κ × α) → κ → Option α
  | [], _ => none
  | (k', v) :: r, k => if k' = k then some v else aget r k
def aput : List (κ × α) → κ → α → List (κ × α)
  | [], k, v => [(k, v)]
  | (k', v') :: r, k, v => if k' = k then (k, v) :: r else (k', v') :: aput r k v
def adel : List (κ × α) → κ → List (κ × α)
  | [], _ => []
  | (k', v') :: r, k => if k' = k then r else (k', v') :: adel r k
def keysOf (l : List (κ × α)) : List κ := l.map (·.1)

theorem aget_put_same (l : List (κ × α)) (k : κ) (v : α) : aget (aput l k v) k = some v := by
  induction l with
  | nil => simp [aput, aget]
  | cons p l ih => obtain ⟨k', v'⟩ := p; by_cases h : k' = k <;> simp [aput, aget, h, ih]
theorem aget_put_other (l : List (κ × α)) {k k2 : κ} (v : α) (h : k2 ≠ k) : aget (aput l k v) k2 = aget l k2 := by
  induction l with
  | nil => simp [aput, aget, Ne.symm h]
  | cons p l ih =>
    obtain ⟨k', v'⟩ := p
    by_cases h1 : k' = k
    · subst h1; simp [aput, aget, Ne.symm h]
    · by_cases h2 : k' = k2
      · subst h2; simp [aput, aget, h1]
      · simp [aput, aget, h1, h2, ih]
theorem aget_none_iff (l : List (κ × α)) (k : κ) : aget l k = none ↔ k ∉ keysOf l := by
  induction l with
  | nil => simp [aget, keysOf]
  | cons p l ih =>
    obtain ⟨k', v'⟩ := p
    by_cases h : k' = k
    · simp [aget, keysOf, h]
    · have h' : ¬ k = k' := fun e => h e.symm
      simp only [aget, h, if_false, ih, keysOf, List.map_cons, List.mem_cons, h', false_or]
theorem aget_mem {l : List (κ × α)} {k : κ} {v : α} (h : aget l k = some v) : (k, v) ∈ l := by
  induction l with
  | nil => simp [aget] at h
  | cons p l ih =>
    obtain ⟨k', v'⟩ := p
    by_cases h1 : k' = k
    · subst h1; simp [aget] at h; simp [h]
    · simp only [aget, h1, if_false] at h; exact .tail _ (ih h)
theorem mem_aget {l : List (κ × α)} (hn : (keysOf l).Nodup) {k : κ} {v : α} (h : (k, v) ∈ l) : aget l k = some v := by
  induction l with
  | nil => cases h
  | cons p l ih =>
    obtain ⟨k', v'⟩ := p
    simp only [keysOf, List.map_cons, List.nodup_cons] at hn
    rcases List.mem_cons.1 h with h | h
    · cases h; simp [aget]
    · have : k' ≠ k := fun e => hn.1 (List.mem_map.2 ⟨(k, v), h, e.symm⟩)
      simp only [aget, this, if_false]
      exact ih hn.2 h
theorem keys_put (l : List (κ × α)) (k : κ) (v : α) : keysOf (aput l k v) = if k ∈ keysOf l then keysOf l else keysOf l ++ [k] := by
  induction l with
  | nil => simp [aput, keysOf]
  | cons p l ih =>
    obtain ⟨k', v'⟩ := p
    by_cases h : k' = k
    · subst h; simp [aput, keysOf]
    · have h' : ¬ k = k' := fun e => h e.symm
      simp only [keysOf] at ih ⊢
      by_cases h2 : k ∈ l.map (·.1) <;> simp [aput, h, h', h2, ih]
theorem nodup_put {l : List (κ × α)} (hn : (keysOf l).Nodup) (k : κ) (v : α) : (keysOf (aput l k v)).Nodup := by
  rw [keys_put]
  split
  · exact hn
  · rename_i h
    rw [List.nodup_append]
    exact ⟨hn, by simp, fun a ha b hb => by simp at hb; subst hb; exact fun e => h (e ▸ ha)⟩
theorem keys_del {l : List (κ × α)} (hn : (keysOf l).Nodup) (k : κ) : keysOf (adel l k) = (keysOf l).filter (fun x => decide (x ≠ k)) := by
  induction l with
  | nil => simp [adel, keysOf]
  | cons p l ih =>
    obtain ⟨k', v'⟩ := p
    simp only [keysOf, List.map_cons, List.nodup_cons] at hn
    by_cases h : k' = k
    · subst h
      have : List.filter (fun x => decide (x ≠ k')) (l.map (·.1)) = l.map (·.1) := List.filter_eq_self.2 fun a ha => by simp; exact fun e => hn.1 (e ▸ ha)
      simpa [adel, keysOf] using this.symm
    · have ih' := ih hn.2
      simp only [keysOf] at ih' ⊢
      simp only [adel, h, if_false, List.map_cons, ih']
      rw [List.filter_cons_of_pos (by simp [h])]
theorem nodup_del {l : List (κ × α)} (hn : (keysOf l).Nodup) (k : κ) : (keysOf (adel l k)).Nodup := by
  rw [keys_del hn]; exact hn.filter _
theorem aget_del_same {l : List (κ × α)} (hn : (keysOf l).Nodup) (k : κ) : aget (adel l k) k = none := by
  rw [aget_none_iff, keys_del hn]; simp
theorem aget_del_other (l : List (κ × α)) {k k2 : κ} (h : k2 ≠ k) : aget (adel l k) k2 = aget l k2 := by
  induction l with
  | nil => simp [adel]
  | cons p l ih =>
    obtain ⟨k', v'⟩ := p
    by_cases h1 : k' = k
    · subst h1; simp [adel, aget, Ne.symm h]
    · by_cases h2 : k' = k2
      · subst h2; simp [adel, aget, h1]
      · simp [adel, aget, h1, h2, ih]
end lists
/-- Two lists of one make: the same keys, and what stands behind them is related. -/
def ARel (R : α → β → Prop) : List (κ × α) → List (κ × β) → Prop
  | [], [] => True
  | p :: l, q :: m => (p.1 = q.1 ∧ R p.2 q.2) ∧ ARel R l m
  | _, _ => False
/-- By both lists at once. -/
theorem arel_ind {R : α → β → Prop} {M : List (κ × α) → List (κ × β) → Prop} (h0 : M [] []) (h1 : ∀ k a b l m, R a b → ARel R l m → M l m → M ((k, a) :: l) ((k, b) :: m)) :
    ∀ (l : List (κ × α)) (m : List (κ × β)), ARel R l m → M l m
  | [], [], _ => h0
  | (k, a) :: l, (k', b) :: m, h => by
    obtain ⟨⟨hk, hr⟩, ht⟩ := h
    dsimp only at hk hr
    subst hk
    exact h1 k a b l m hr ht (arel_ind h0 h1 l m ht)
  | [], _ :: _, h => h.elim
  | _ :: _, [], h => h.elim
theorem ARel.keys {R : α → β → Prop} {l : List (κ × α)} {m : List (κ × β)} (h : ARel R l m) : keysOf l = keysOf m :=
  arel_ind (M := fun (l : List (κ × α)) (m : List (κ × β)) => keysOf l = keysOf m) rfl (fun k a b l m _ _ ih => by simp only [keysOf, List.map_cons] at ih ⊢; rw [ih]) l m h
theorem ARel.mono {R S : α → β → Prop} {l : List (κ × α)} {m : List (κ × β)} (h : ARel R l m) (hs : ∀ k a b, (k, a) ∈ l → (k, b) ∈ m → R a b → S a b) : ARel S l m :=
  arel_ind (M := fun l m => (∀ k a b, (k, a) ∈ l → (k, b) ∈ m → R a b → S a b) → ARel S l m) (fun _ => trivial)
    (fun k a b _ _ hr _ ih hs => ⟨⟨rfl, hs k a b (.head _) (.head _) hr⟩, ih fun k' a' b' ha hb => hs k' a' b' (.tail _ ha) (.tail _ hb)⟩) l m h hs
theorem ARel.get [DecidableEq κ] {R : α → β → Prop} {l : List (κ × α)} {m : List (κ × β)} (h : ARel R l m) (k : κ) : (aget l k = none ∧ aget m k = none) ∨ ∃ a b, aget l k = some a ∧ aget m k = some b ∧ R a b :=
  arel_ind (M := fun l m => (aget l k = none ∧ aget m k = none) ∨ ∃ a b, aget l k = some a ∧ aget m k = some b ∧ R a b) (.inl ⟨rfl, rfl⟩)
    (fun k' a b l m hr _ ih => by
      by_cases e : k' = k
      · exact .inr ⟨a, b, by simp [aget, e], by simp [aget, e], hr⟩
      · simpa only [aget, e, if_false] using ih) l m h
theorem ARel.put [DecidableEq κ] {R : α → β → Prop} {l : List (κ × α)} {m : List (κ × β)} (h : ARel R l m) (k : κ) {a : α} {b : β} (hab : R a b) : ARel R (aput l k a) (aput m k b) :=
  arel_ind (M := fun l m => ARel R (aput l k a) (aput m k b)) ⟨⟨rfl, hab⟩, trivial⟩
    (fun k' a' b' l m hr ht ih => by
      by_cases e : k' = k
      · simp only [aput, e, if_true]; exact ⟨⟨rfl, hab⟩, ht⟩
      · simp only [aput, e, if_false]; exact ⟨⟨rfl, hr⟩, ih⟩) l m h
theorem ARel.del [DecidableEq κ] {R : α → β → Prop} {l : List (κ × α)} {m : List (κ × β)} (h : ARel R l m) (k : κ) : ARel R (adel l k) (adel m k) :=
  arel_ind (M := fun l m => ARel R (adel l k) (adel m k)) trivial
    (fun k' a' b' l m hr ht ih => by
      by_cases e : k' = k
      · simp only [adel, e, if_true]; exact ht
      · simp only [adel, e, if_false]; exact ⟨⟨rfl, hr⟩, ih⟩) l m h

/-! ### a map in memory -/
/-- How keys of a kind stand as values. -/
structure KeyKind (d : TypeDesc) (enc : κ → Value) : Prop where
  isKey : ∀ k, IsKey d (enc k)
  inj : ∀ a b, enc a = enc b → a = b
theorem strKind : KeyKind .string Value.string := ⟨fun _ => trivial, fun a b h => by cases h; rfl⟩
theorem intKind : KeyKind (.int .i64) (Value.int .i64) := ⟨fun _ => rfl, fun a b h => by cases h; rfl⟩

def kv (e : MapEntry) : Value × Value := (e.key, e.val)
def ekv (enc : κ → Value) (p : κ × Value) : Value × Value := (enc p.1, p.2)
/-- Block m is a map of these entries, in this order. -/
def MapAt (w : World) (enc : κ → Value) (m : Nat) (es : List (κ × Value)) : Prop :=
  ∃ arr clock, w.heap[m]? = some (.map arr clock) ∧ arr.toList.map kv = es.map (ekv enc) ∧ Stamped arr clock
theorem MapAt.keep {F : Nat → Prop} {w w' : World} {enc : κ → Value} {m : Nat} {es : List (κ × Value)} (h : MapAt w enc m es) (k : Keeps F w w') (hF : ¬ F m) : MapAt w' enc m es := by
  obtain ⟨arr, clock, hb, r⟩ := h
  exact ⟨arr, clock, k.get hb hF, r⟩
theorem MapAt.lt {w : World} {enc : κ → Value} {m : Nat} {es : List (κ × Value)} (h : MapAt w enc m es) : m < w.heap.size := by
  obtain ⟨arr, clock, hb, r⟩ := h
  exact lt_of_block hb
theorem MapAt.made (w : World) (enc : κ → Value) : MapAt (w.alloc (.map #[] 0)) enc w.heap.size [] :=
  ⟨#[], 0, World.alloc_heap_new w _, rfl, by simp [Stamped]⟩
theorem MapAt.nodup {w : World} {enc : κ → Value} {m : Nat} {es : List (κ × Value)} (h : MapAt w enc m es) : (keysOf es).Nodup := by
  obtain ⟨arr, clock, _, he, _, _, hn⟩ := h
  have : arr.toList.map (·.key) = (keysOf es).map enc := by
    have := congrArg (List.map Prod.fst) he
    simpa [kv, ekv, keysOf, List.map_map, Function.comp_def] using this
  rw [this] at hn
  rw [List.Nodup, List.pairwise_map] at hn
  exact hn.imp fun h e => h (by rw [e])

theorem findNow_get [DecidableEq κ] {d : TypeDesc} {enc : κ → Value} (K : KeyKind d enc) (k : κ) : ∀ (l : List MapEntry) (es : List (κ × Value)) (i : Nat), l.map kv = es.map (ekv enc) →
    (Instr.findNow d (enc k) l i = some none ∧ aget es k = none ∧ ∀ v, aput es k v = es ++ [(k, v)]) ∨
    ∃ j v, Instr.findNow d (enc k) l i = some (some (i + j, v)) ∧ aget es k = some v ∧ (∃ e, l[j]? = some e ∧ e.key = enc k) ∧ (∀ u, (l.set j ⟨enc k, u, (l[j]?.map (·.born)).getD 0⟩).map kv = (aput es k u).map (ekv enc)) ∧ (l.eraseIdx j).map kv = (adel es k).map (ekv enc)
  | [], es, i, h => by
    cases es with
    | nil => exact .inl ⟨rfl, rfl, fun _ => rfl⟩
    | cons p es => cases h
  | e :: l, es, i, h => by
    cases es with
    | nil => cases h
    | cons p es =>
      obtain ⟨k', v'⟩ := p
      simp only [List.map_cons, List.cons.injEq] at h
      obtain ⟨h1, h2⟩ := h
      simp only [kv, ekv, Prod.mk.injEq] at h1
      obtain ⟨hk, hv⟩ := h1
      obtain ⟨r, hr, hiff⟩ := sameNow_of_keys (K.isKey k) (K.isKey k')
      rw [← hk] at hr
      cases r with
      | true =>
        have e1 : k = k' := K.inj _ _ (hiff.1 rfl)
        subst e1
        refine .inr ⟨0, v', by simp [Instr.findNow, hr, hv], by simp [aget], ⟨e, rfl, hk⟩, fun u => ?_, ?_⟩
        · simp [aput, kv, ekv, h2]
        · simpa [adel] using h2
      | false =>
        have hne : ¬ k' = k := fun q => by have := hiff.2 (by rw [q]); cases this
        rcases findNow_get K k l es (i + 1) h2 with ⟨g1, g2, g3⟩ | ⟨j, v, g1, g2, g3, g4, g5⟩
        · exact .inl ⟨by simp [Instr.findNow, hr, g1], by simp [aget, hne, g2], fun v => by simp [aput, hne, g3]⟩
        · refine .inr ⟨j + 1, v, by simp [Instr.findNow, hr, g1]; omega, by simp [aget, hne, g2], by simpa using g3, fun u => ?_, ?_⟩
          · have := g4 u
            simp only [aput, hne, if_false, List.set_cons_succ, List.map_cons, List.getElem?_cons_succ, this]
            simp [kv, ekv, hk, hv]
          · simp only [adel, hne, if_false, List.eraseIdx_cons_succ, List.map_cons, g5]
            simp [kv, ekv, hk, hv]

section ops
variable [DecidableEq κ] {w : World} {d : TypeDesc} {enc : κ → Value}
theorem run_lookup_at (K : KeyKind d enc) {T kt et : TypeId} (hT : P.underlying T = some (.map kt et)) (hk : P.underlying kt = some d) {m : Nat} {es : List (κ × Value)} (h : MapAt w enc m es) (k : κ) {z : Value} (hz : (zeroValue et).run P w = .ok z w) (ok : Bool) :
    (Instr.lookup T (.map (some m)) (enc k) ok).run P w = .ok (if ok then .tuple #[(aget es k).getD z, .bool (aget es k).isSome] else (aget es k).getD z) w := by
  obtain ⟨arr, clock, hb, he, hs⟩ := h
  rcases findNow_get K k arr.toList es 0 he with ⟨g1, g2, _⟩ | ⟨j, v, g1, g2, _⟩
  · simp [Instr.lookup, run_underlying hT, MapKept.run_getObj_map hb, run_checkKey hk (K.isKey k), run_findKey hk g1, g2, hz, Result.andThen]
  · simp [Instr.lookup, run_underlying hT, MapKept.run_getObj_map hb, run_checkKey hk (K.isKey k), run_findKey hk g1, g2, Result.andThen]
theorem run_update_at (K : KeyKind d enc) {T kt et : TypeId} (hT : P.underlying T = some (.map kt et)) (hk : P.underlying kt = some d) {m : Nat} {es : List (κ × Value)} (h : MapAt w enc m es) (k : κ) (v : Value) :
    ∃ o, (Instr.mapUpdate T (.map (some m)) (enc k) v).run P w = .ok () (w.putObj m o) ∧ MapAt (w.putObj m o) enc m (aput es k v) := by
  obtain ⟨arr, clock, hb, he, hs⟩ := h
  rcases findNow_get K k arr.toList es 0 he with ⟨g1, g2, g3⟩ | ⟨j, v', g1, g2, ⟨e, g3, g3k⟩, g4, _⟩
  · refine ⟨.map (arr.push { key := enc k, val := v, born := clock }) (clock + 1), ?_, _, _, heap_putObj_same hb, ?_, ?_⟩
    · simp [Instr.mapUpdate, run_underlying hT, MapKept.run_getObj_map hb, run_checkKey hk (K.isKey k), run_findKey hk g1, MapKept.run_setObj_map _ hb, Result.andThen, World.putObj]
    · rw [g3]
      simp [he, kv, ekv]
    · have hkeys : arr.toList.map (·.key) = (keysOf es).map enc := by
        have := congrArg (List.map Prod.fst) he
        simpa [kv, ekv, keysOf, List.map_map, Function.comp_def] using this
      obtain ⟨s1, s2, s3⟩ := hs
      refine ⟨fun x hx => ?_, ?_, ?_⟩
      · rw [Array.toList_push, List.mem_append] at hx
        rcases hx with hx | hx
        · have := s1 x hx; omega
        · simp at hx; subst hx; simp
      · simp only [Array.toList_push, List.map_append, List.map_cons, List.map_nil]
        rw [List.nodup_append]
        refine ⟨s2, by simp, fun a ha b hb' => ?_⟩
        obtain ⟨x, hx, rfl⟩ := List.mem_map.1 ha
        simp at hb'; subst hb'
        have := s1 x hx
        omega
      · simp only [Array.toList_push, List.map_append, List.map_cons, List.map_nil]
        rw [List.nodup_append]
        refine ⟨s3, by simp, fun a ha b hb' => ?_⟩
        simp at hb'; subst hb'
        rw [hkeys] at ha
        obtain ⟨q, hq, rfl⟩ := List.mem_map.1 ha
        intro e
        exact (aget_none_iff es k).1 g2 (K.inj _ _ e ▸ hq)
  · have g3' : arr[j]? = some e := by simpa using g3
    refine ⟨.map (arr.modify j fun e => { e with key := enc k, val := v }) clock, ?_, _, _, heap_putObj_same hb, ?_, ?_⟩
    · simp [Instr.mapUpdate, run_underlying hT, MapKept.run_getObj_map hb, run_checkKey hk (K.isKey k), run_findKey hk g1, g3', g3k, run_keyThatStays (K.isKey k), MapKept.run_setObj_map _ hb, Result.andThen, World.putObj]
    · rw [← g4 v]
      congr 1
      rw [g3]
      apply List.ext_getElem?
      intro i
      simp only [Array.getElem?_toList, Array.getElem?_modify, List.getElem?_set]
      by_cases hij : j = i
      · subst hij
        simp only [if_true, g3', Option.map_some, Option.getD_some]
        rw [if_pos (by simpa using (Array.getElem?_eq_some_iff.1 g3').1)]
      · simp [hij]
    · obtain ⟨s1, s2, s3⟩ := hs
      have hkeys := modify_keys j (fun e => { e with key := enc k, val := v }) (es := arr) (fun e' he' => by rw [g3'] at he'; cases he'; exact g3k.symm)
      have hborn : (arr.modify j fun e => { e with key := enc k, val := v }).toList.map (·.born) = arr.toList.map (·.born) := by
        apply List.ext_getElem?
        intro i
        simp only [List.getElem?_map, Array.getElem?_toList, Array.getElem?_modify]
        by_cases hij : j = i
        · subst hij; cases arr[j]? <;> simp
        · simp [hij]
      refine ⟨fun x hx => ?_, hborn ▸ s2, hkeys ▸ s3⟩
      have : x.born ∈ (arr.modify j fun e => { e with key := enc k, val := v }).toList.map (·.born) := List.mem_map.2 ⟨x, hx, rfl⟩
      rw [hborn] at this
      obtain ⟨y, hy, e'⟩ := List.mem_map.1 this
      rw [← e']; exact s1 y hy
theorem run_delete_at (K : KeyKind d enc) {T kt et : TypeId} (hT : P.underlying T = some (.map kt et)) (hk : P.underlying kt = some d) {m : Nat} {es : List (κ × Value)} (h : MapAt w enc m es) (k : κ) (ty : TypeId) :
    ∃ o, (Builtin.delete_ #[T, kt] ty #[.map (some m), enc k]).run P w = .ok (.tuple #[]) (w.putObj m o) ∧ MapAt (w.putObj m o) enc m (adel es k) := by
  obtain ⟨arr, clock, hb, he, hs⟩ := h
  rcases findNow_get K k arr.toList es 0 he with ⟨g1, g2, g3⟩ | ⟨j, v', g1, g2, ⟨e, g3, g3k⟩, _, g5⟩
  · refine ⟨.map arr clock, ?_, _, _, heap_putObj_same hb, ?_, hs⟩
    · simp [Builtin.delete_, run_underlying hT, MapKept.run_getObj_map hb, run_checkKey hk (K.isKey k), run_findKey hk g1, MapKept.run_setObj_map _ hb, Result.andThen, World.putObj]
    · rw [he]
      congr 1
      have : k ∉ keysOf es := (aget_none_iff es k).1 g2
      clear he hs g1 g3
      induction es with
      | nil => rfl
      | cons p es ih =>
        obtain ⟨k', v'⟩ := p
        have h1 : ¬ k' = k := fun e => this (by simp [keysOf, e])
        simp only [adel, h1, if_false]
        rw [← ih (by simpa [aget, h1] using g2) (fun hm => this (.tail _ hm))]
  · refine ⟨.map (arr.eraseIdxIfInBounds j) clock, ?_, _, _, heap_putObj_same hb, ?_, stamped_erase hs j⟩
    · simp [Builtin.delete_, run_underlying hT, MapKept.run_getObj_map hb, run_checkKey hk (K.isKey k), run_findKey hk g1, MapKept.run_setObj_map _ hb, Result.andThen, World.putObj]
    · rw [← g5]
      congr 1
      have hj : j < arr.size := by simpa using (List.getElem?_eq_some_iff.1 g3).1
      simp [Array.eraseIdxIfInBounds, hj, Array.toList_eraseIdx]
end ops
end Go.Proofs.YtmnfehbnjgmgjaaDoor
