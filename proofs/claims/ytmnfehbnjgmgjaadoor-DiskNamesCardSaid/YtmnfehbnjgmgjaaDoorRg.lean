/- Ranges over maps: the map and its iterator as one chunk; what is left of it; what it told last. -/
import Derived.Test.YtmnfehbnjgmgjaaDoorR
namespace Go.Proofs.YtmnfehbnjgmgjaaDoor
set_option linter.all false
open Go.RowKit
variable {P : Program} {n : Nat} {ops : Array Oper} {rest : List Oper} {K : Env → World → Prop} {ρ : Env} {g w : World} {L : List HP} {dst : Option Tmp} {ty : TypeId} {pos : String} {aft : Array Edge}

/-! ### ranges over maps -/
/-- What the iterator told last. -/
def curOk {κ : Type} (enc : κ → Value) (arr : Array MapEntry) (clock : Nat) (seen : Array Nat) (c0 : Nat) : Option (κ × Value) → Prop
  | none => True
  | some p => ∃ e ∈ arr.toList, e.key = enc p.1 ∧ e.val = p.2 ∧ c0 = clock ∧ ∃ s : Array Nat, seen = s.push e.born
/-- Map m holds es; the iterator in block r has still to tell what is left; cur is what it told last. -/
def rngC {κ : Type} (enc : κ → Value) (r m : Nat) (es left : List (κ × Value)) (cur : Option (κ × Value)) : HP where
  ok F w := (∃ arr clock since seen c0, w.heap[m]? = some (.map arr clock) ∧ arr.toList.map kv = es.map (ekv enc) ∧ MapKept.Stamped arr clock ∧ w.heap[r]? = some (.mapIter (some m) since seen c0) ∧ (since ≤ c0 ∧ since ≤ clock) ∧ (∀ x ∈ arr.toList, x.born < since) ∧ (leftOf arr seen).toList.map kv = left.map (ekv enc) ∧ curOk enc arr clock seen c0 cur) ∧ ∀ x, F x ↔ x = m ∨ x = r
  loc := fun {F w w'} ⟨⟨arr, clock, since, seen, c0, h1, h2, h3, h4, h5⟩, hF⟩ k => ⟨⟨arr, clock, since, seen, c0, (k m ((hF m).2 (.inl rfl))).trans h1, h2, h3, (k r ((hF r).2 (.inr rfl))).trans h4, h5⟩, hF⟩
  lt := fun ⟨⟨arr, clock, since, seen, c0, h1, h2, h3, h4, h5⟩, hF⟩ hb => ((hF _).1 hb).elim (fun e => by rw [e]; exact lt_of_block h1) fun e => by rw [e]; exact lt_of_block h4
section
variable {κ : Type} [DecidableEq κ] {enc : κ → Value} {r m : Nat} {es left : List (κ × Value)} {cur : Option (κ × Value)}
/-- The range begins. -/
theorem lw_rangeM (hs : Mem g w L) (hd : okd n dst = true) (i : Nat) (hi : L[i]? = some (mapC enc m es)) {x : Operand} {t k e : TypeId} (ht : P.underlying t = some (.map k e)) (hx : ev ρ x = .map (some m))
    (h : ∀ r w', Mem g w' (L.set i (rngC enc r m es es none)) → lw P n ops rest K (updo ρ dst (.pointer (some ⟨r, 0, none⟩))) w') :
    lw P n ops (⟨dst, .range t x, ty, pos, aft, none⟩ :: rest) K ρ w := by
  obtain ⟨F, ⟨⟨arr, clock, hb, he, hst⟩, g2⟩, g3⟩ := hs.turn hi
  have hlt := lt_of_block hb
  refine lw_val hd (v := .pointer (some ⟨w.heap.size, 0, none⟩)) (w' := w.alloc (.mapIter (some m) clock #[] clock)) ?_ (h _ _ (g3 _ _ (fun x => x = m ∨ x = w.heap.size) ⟨⟨arr, clock, clock, #[], clock, ?_, he, hst, World.alloc_heap_new w _, ⟨Nat.le_refl _, Nat.le_refl _⟩, hst.1, by rw [leftOf_none]; exact he, trivial⟩, fun _ => Iff.rfl⟩ (fun b hb => hb.elim (fun e => .inl ((g2 b).2 e)) fun e => .inr (Nat.le_of_eq e.symm)) ((Keeps.refl _ _).alloc _)))
  · simp only [execOp, hx, Sem.run_bind, run_range_map w t k e m arr clock ht hb, Result.andThen_ok, Sem.run_pure]
  · rw [Go.heap_alloc_old w _ hlt]; exact hb
/-- The range goes on, or ends. -/
theorem lw_nextM (hs : Mem g w L) (hd : okd n dst = true) (i : Nat) (hi : L[i]? = some (rngC enc r m es left cur)) (inj : ∀ a b, enc a = enc b → a = b) {x : Operand} (hx : ev ρ x = .pointer (some ⟨r, 0, none⟩))
    (h0 : left = [] → lw P n ops rest K (updo ρ dst (.tuple #[.bool false])) w)
    (h1 : ∀ k v w', aget left k = some v → Mem g w' (L.set i (rngC enc r m es (adel left k) (some (k, v)))) → lw P n ops rest K (updo ρ dst (.tuple #[.bool true, enc k, v])) w') :
    lw P n ops (⟨dst, .next x false, ty, pos, aft, none⟩ :: rest) K ρ w := by
  obtain ⟨F, ⟨⟨arr, clock, since, seen, c0, e1, e2, e3, e4, e5, e6, e7, e8⟩, g2⟩, g3⟩ := hs.turn hi
  rcases run_next_at (P := P) w ty r m since c0 seen arr clock e4 e1 e6 e5.1 with ⟨hz, hr⟩ | ⟨e, he, w1, hw1, hr⟩
  · have : left = [] := by
      have := congrArg List.length e7
      simp only [List.length_map, Array.length_toList] at this
      exact List.eq_nil_of_length_eq_zero (by omega)
    refine lw_val hd (v := .tuple #[.bool false]) (w' := w) ?_ (h0 this)
    simp only [execOp, hx, Sem.run_bind, hr, Result.andThen_ok, Sem.run_pure]
  · obtain ⟨k, v, k1, k2, k3, k4⟩ := map_left (es := es) e3 he e7 e2 inj
    have hne : r ≠ m := fun h => by rw [h] at e4; rw [e4] at e1; cases e1
    have hheap : w1.heap = w.heap := by rcases hw1 with rfl | rfl <;> rfl
    have hlt := lt_of_block e4
    have hset : (ChangeMaps.setBlock w1 r (.mapIter (some m) since (seen.push e.born) clock)).heap = w.heap.setIfInBounds r (.mapIter (some m) since (seen.push e.born) clock) := by simp [ChangeMaps.setBlock, hheap]
    have hk : Keeps F w (ChangeMaps.setBlock w1 r (.mapIter (some m) since (seen.push e.born) clock)) := by
      have hos : ∀ w1, (w1 = w ∨ w1 = w.drew) → w1.os = w.os ∧ w1.tape = w.tape ∧ w1.output = w.output := fun w1 h => by rcases h with rfl | rfl <;> exact ⟨rfl, rfl, rfl⟩
      obtain ⟨a1, a2, a3⟩ := hos w1 hw1
      refine ⟨a1, a2, a3, by rw [hset]; simp, fun b hb hnb => ?_⟩
      rw [hset, Array.getElem?_setIfInBounds_ne (fun h => hnb ((g2 b).2 (.inr h.symm)))]
    refine lw_val hd (v := .tuple #[.bool true, e.key, e.val]) (w' := ChangeMaps.setBlock w1 r (.mapIter (some m) since (seen.push e.born) clock)) ?_ ?_
    · simp only [execOp, hx, Sem.run_bind, hr, Result.andThen_ok, Sem.run_pure]
    · rw [k1, k2]
      refine h1 k v _ k3 (g3 _ _ F ⟨⟨arr, clock, since, seen.push e.born, clock, ?_, e2, e3, ?_, ⟨e5.2, e5.2⟩, e6, k4, ⟨e, by simp [leftOf] at he; simpa using he.1, k1, k2, rfl, _, rfl⟩⟩, g2⟩ (fun b hb => .inl hb) hk)
      · rw [hset, Array.getElem?_setIfInBounds_ne hne]; exact e1
      · rw [hset]; exact Array.getElem?_setIfInBounds_self_of_lt hlt
/-- What was told last is read. -/
theorem run_entryM (hs : Mem g w L) (i : Nat) {k : κ} {v : Value} (hi : L[i]? = some (rngC enc r m es left (some (k, v)))) {x : Operand} (hx : ev ρ x = .pointer (some ⟨r, 0, none⟩)) :
    (execOp (ev ρ) ⟨dst, .entry x, ty, pos, aft, none⟩).run P w = .ok (.value (.tuple #[enc k, v])) w := by
  obtain ⟨F, ⟨⟨arr, clock, since, seen, c0, e1, e2, e3, e4, e5, e6, e7, e, he, k1, k2, rfl, s, rfl⟩, g2⟩, g3⟩ := hs.turn hi
  have hr := run_entry_at (P := P) w r m since s arr c0 e e4 e1 he e3.2.1
  rw [k1, k2] at hr
  simp only [execOp, hx, Sem.run_bind, hr, Result.andThen_ok, Sem.run_pure]
/-- Behind the range: the map alone. -/
theorem Mem.rngd (hs : Mem g w L) (i : Nat) (hi : L[i]? = some (rngC enc r m es left cur)) : Mem g w (L.set i (mapC enc m es)) := by
  obtain ⟨F, ⟨⟨arr, clock, since, seen, c0, e1, e2, e3, e4, e5, e6, e7, e8⟩, g2⟩, g3⟩ := hs.turn hi
  exact g3 w _ (fun x => x = m) ⟨⟨arr, clock, e1, e2, e3⟩, fun _ => Iff.rfl⟩ (fun b hb => .inl ((g2 b).2 (.inl hb))) (Keeps.refl _ _)
end
end Go.Proofs.YtmnfehbnjgmgjaaDoor
