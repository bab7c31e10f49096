/- make of a slice; ranges over maps: the map and its iterator as one chunk; what is left of it. -/
import Derived.Test.YtmnfehbnjgmgjaaDoorS
import Derived.Maps.RangeRun
import Derived.Laws.MakeOwn
namespace Go.Proofs.YtmnfehbnjgmgjaaDoor
set_option linter.all false
open Go.RowKit
variable {P : Program} {n : Nat} {ops : Array Oper} {rest : List Oper} {K : Env → World → Prop} {ρ : Env} {g w : World} {L : List HP} {dst : Option Tmp} {ty : TypeId} {pos : String} {aft : Array Edge}

theorem memN_sub {W W' : List Nat} (h : (W'.all fun t => memN t W) = true) {t : Nat} (ht : memN t W' = true) : memN t W = true := by
  induction W' with
  | nil => cases ht
  | cons d l ih =>
    simp only [List.all_cons, Bool.and_eq_true] at h
    simp only [memN, Bool.or_eq_true] at ht
    rcases ht with ht | ht
    · rw [Nat.eq_of_beq_eq_true ht]; exact h.1
    · exact ih h.2 ht
/-- A loop within writes within. -/
theorem Out.mixIn {W W' : List Nat} {ξ ρ' ρ : Env} (hsub : (W'.all fun t => memN t W) = true) (h : Out W ρ' ρ) : Out W (Go.Proofs.YtmnfehbnjgmgjaaDoor.mix W' ξ ρ') ρ := fun t ht => by
  have : memN t W' = false := by cases hb : memN t W' with
    | false => rfl
    | true => rw [memN_sub hsub hb] at ht; cases ht
  simp only [Go.Proofs.YtmnfehbnjgmgjaaDoor.mix, this, cond_false]
  exact h t ht
theorem made_at {z : Value} (hzc : z.cells = #[z]) (c i : Nat) (h : i < c) : (madeCells z.cells (c * 1))[i]? = some z := by
  simp [madeCells, hzc, h, Nat.mod_one]
theorem lw_makeSlice (hs : Mem g w L) (hd : okd n dst = true) {x y : Operand} {t e : TypeId} {l c : Nat} {kl kc : IntKind} {i j : Int} {z : Value} {by_ : Nat} (ht : P.underlying t = some (.slice e)) (hsz : (P.info? e).map (fun i => (i.zero, i.size, i.bytes)) = some (some z, 1, by_)) (hzc : z.cells = #[z])
    (hx : ev ρ x = .int kl i) (hy : ev ρ y = .int kc j) (hi : i = l) (hj : j = c) (hlc : l ≤ c) (hb : by_ * c ≤ 281474976710656) (h63 : c ≤ 9223372036854775807)
    (h : ∀ b w', Mem g w' (own (.slice (some ⟨b, 0, none⟩) l c) (List.replicate l z) :: L) → lw P n ops rest K (updo ρ dst (.slice (some ⟨b, 0, none⟩) l c)) w') :
    lw P n ops (⟨dst, .makeSlice t x y, ty, pos, aft, none⟩ :: rest) K ρ w := by
  subst hi hj
  obtain ⟨inf, hinf, hz⟩ := Option.map_eq_some_iff.1 hsz
  simp only [Prod.mk.injEq] at hz
  obtain ⟨hz1, hz2, hz3⟩ := hz
  have hr := run_make (P := P) w t e inf z ht hinf hz1 kl kc l c (by omega) (by omega) (by rw [hz3]; omega) (by omega)
  simp only [Int.toNat_natCast, hz2] at hr
  refine lw_val hd (v := .slice (some ⟨w.heap.size, 0, none⟩) l c) (w' := w.alloc (.cells (madeCells z.cells (c * 1)) e)) ?_ (h _ _ (hs.add (F' := fun x => blk (.slice (some ⟨w.heap.size, 0, none⟩) l c) = some x) ⟨?_, fun _ => Iff.rfl⟩ (fun b hb => ?_) ((Keeps.refl _ _).alloc _)))
  · simp only [execOp, hx, hy, Sem.run_bind, hr, Result.andThen_ok, Sem.run_pure]
  · refine ⟨_, _, _, rfl, by simp, hlc, ⟨(fun h => by cases h), fun x hx => ?_⟩, .inr ⟨w.heap.size, 0, madeCells z.cells (c * 1), e, rfl, World.alloc_heap_new w _, by rw [size_madeCells]; omega, fun i hi => ?_⟩⟩
    · simp only [blk, Option.some.injEq] at hx
      subst hx
      exact lt_of_block (World.alloc_heap_new w _)
    · simp only [List.length_replicate] at hi
      rw [Nat.zero_add, made_at hzc c i (by omega)]
      simp [hi]
  · simp only [blk, Option.some.injEq] at hb
    omega

/-! ### ranges over maps -/
/-- Map m holds es; the iterator in block r has still to tell what is left. -/
def rangeC {κ : Type} (enc : κ → Value) (r m : Nat) (es left : List (κ × Value)) : HP where
  ok F w := (∃ arr clock since seen c0, w.heap[m]? = some (.map arr clock) ∧ arr.toList.map kv = es.map (ekv enc) ∧ MapKept.Stamped arr clock ∧ w.heap[r]? = some (.mapIter (some m) since seen c0) ∧ (since ≤ c0 ∧ since ≤ clock) ∧ (∀ x ∈ arr.toList, x.born < since) ∧ (leftOf arr seen).toList.map kv = left.map (ekv enc)) ∧ ∀ x, F x ↔ x = m ∨ x = r
  loc := fun {F w w'} ⟨⟨arr, clock, since, seen, c0, h1, h2, h3, h4, h5⟩, hF⟩ k => ⟨⟨arr, clock, since, seen, c0, (k m ((hF m).2 (.inl rfl))).trans h1, h2, h3, (k r ((hF r).2 (.inr rfl))).trans h4, h5⟩, hF⟩
  lt := fun ⟨⟨arr, clock, since, seen, c0, h1, h2, h3, h4, h5⟩, hF⟩ hb => ((hF _).1 hb).elim (fun e => by rw [e]; exact lt_of_block h1) fun e => by rw [e]; exact lt_of_block h4
section
variable {κ : Type} [DecidableEq κ] {enc : κ → Value} {r m : Nat} {es left : List (κ × Value)}
theorem leftOf_none (arr : Array MapEntry) : leftOf arr #[] = arr := by simp [leftOf]
/-- The range begins. -/
theorem lw_rangeMap (hs : Mem g w L) (hd : okd n dst = true) (i : Nat) (hi : L[i]? = some (mapC enc m es)) {x : Operand} {t k e : TypeId} (ht : P.underlying t = some (.map k e)) (hx : ev ρ x = .map (some m))
    (h : ∀ r w', Mem g w' (L.set i (rangeC enc r m es es)) → lw P n ops rest K (updo ρ dst (.pointer (some ⟨r, 0, none⟩))) w') :
    lw P n ops (⟨dst, .range t x, ty, pos, aft, none⟩ :: rest) K ρ w := by
  obtain ⟨F, ⟨⟨arr, clock, hb, he, hst⟩, g2⟩, g3⟩ := hs.turn hi
  have hlt := lt_of_block hb
  refine lw_val hd (v := .pointer (some ⟨w.heap.size, 0, none⟩)) (w' := w.alloc (.mapIter (some m) clock #[] clock)) ?_ (h _ _ (g3 _ _ (fun x => x = m ∨ x = w.heap.size) ⟨⟨arr, clock, clock, #[], clock, ?_, he, hst, World.alloc_heap_new w _, ⟨Nat.le_refl _, Nat.le_refl _⟩, hst.1, by rw [leftOf_none]; exact he⟩, fun _ => Iff.rfl⟩ (fun b hb => hb.elim (fun e => .inl ((g2 b).2 e)) fun e => .inr (Nat.le_of_eq e.symm)) ((Keeps.refl _ _).alloc _)))
  · simp only [execOp, hx, Sem.run_bind, run_range_map w t k e m arr clock ht hb, Result.andThen_ok, Sem.run_pure]
  · rw [Go.heap_alloc_old w _ hlt]; exact hb
theorem map_left {arr : Array MapEntry} {clock : Nat} {seen : Array Nat} (hst : MapKept.Stamped arr clock) {e : MapEntry} (he : e ∈ (leftOf arr seen).toList) (hl : (leftOf arr seen).toList.map kv = left.map (ekv enc)) (hes : arr.toList.map kv = es.map (ekv enc)) (inj : ∀ a b, enc a = enc b → a = b) :
    ∃ k v, e.key = enc k ∧ e.val = v ∧ aget left k = some v ∧ (leftOf arr (seen.push e.born)).toList.map kv = (adel left k).map (ekv enc) := by
  have hsub : ∀ x ∈ (leftOf arr seen).toList, x ∈ arr.toList := fun x hx => by simp [leftOf] at hx ⊢; exact hx.1
  have hpush : (leftOf arr (seen.push e.born)).toList = (leftOf arr seen).toList.filter fun x => decide (x.born ≠ e.born) := by
    simp only [leftOf, Array.toList_filter, List.filter_filter]
    congr 1
    funext x
    simp only [Array.contains_push, Bool.not_or]
    by_cases h : x.born = e.born <;> simp [h, Bool.and_comm]
  have hnk : ((leftOf arr seen).toList.map (·.key)).Nodup := by
    have : ((leftOf arr seen).toList).Sublist arr.toList := by simp only [leftOf, Array.toList_filter]; exact List.filter_sublist
    exact (this.map _).nodup hst.2.2
  have hnb : ((leftOf arr seen).toList.map (·.born)).Nodup := by
    have : ((leftOf arr seen).toList).Sublist arr.toList := by simp only [leftOf, Array.toList_filter]; exact List.filter_sublist
    exact (this.map _).nodup hst.2.1
  rw [hpush]
  clear hpush hsub hst hes
  generalize (leftOf arr seen).toList = ll at *
  induction ll generalizing left with
  | nil => cases he
  | cons a ll ih =>
    cases left with
    | nil => simp at hl
    | cons q left =>
      obtain ⟨k, v⟩ := q
      simp only [List.map_cons, List.cons.injEq] at hl hnk hnb
      obtain ⟨hl1, hl2⟩ := hl
      simp only [kv, ekv, Prod.mk.injEq] at hl1
      rcases List.mem_cons.1 he with rfl | he
      · refine ⟨k, v, hl1.1, hl1.2, by simp [aget], ?_⟩
        simp only [adel, if_true, List.filter_cons]
        simp only [ne_eq, not_true_eq_false, decide_false, Bool.false_eq_true, if_false]
        have : ll.filter (fun x => decide (¬ x.born = e.born)) = ll := List.filter_eq_self.2 fun x hx => by
          have := (List.nodup_cons.1 hnb).1
          simp only [decide_eq_true_eq]
          exact fun h => this (by rw [← h]; exact List.mem_map_of_mem hx)
        rw [this]; exact hl2
      · obtain ⟨k2, v2, h1, h2, h3, h4⟩ := ih (left := left) he hl2 (List.nodup_cons.1 hnk).2 (List.nodup_cons.1 hnb).2
        have hne : ¬ k = k2 := fun h => by
          have := (List.nodup_cons.1 hnk).1
          refine this ?_
          rw [hl1.1, h, ← h1]
          exact List.mem_map_of_mem he
        have hnb2 : ¬ a.born = e.born := fun h => by
          have := (List.nodup_cons.1 hnb).1
          exact this (by rw [h]; exact List.mem_map_of_mem he)
        refine ⟨k2, v2, h1, h2, by simp [aget, hne, h3], ?_⟩
        simp only [adel, hne, if_false, List.filter_cons, ne_eq, hnb2, not_false_eq_true, decide_true, if_true, List.map_cons]
        simp only [ne_eq] at h4
        rw [h4]
        simp only [kv, ekv, hl1.1, hl1.2]
/-- The range goes on, or ends. -/
theorem lw_nextMap (hs : Mem g w L) (hd : okd n dst = true) (i : Nat) (hi : L[i]? = some (rangeC enc r m es left)) (inj : ∀ a b, enc a = enc b → a = b) {x : Operand} (hx : ev ρ x = .pointer (some ⟨r, 0, none⟩))
    (h0 : left = [] → lw P n ops rest K (updo ρ dst (.tuple #[.bool false])) w)
    (h1 : ∀ k v w', aget left k = some v → Mem g w' (L.set i (rangeC enc r m es (adel left k))) → lw P n ops rest K (updo ρ dst (.tuple #[.bool true, enc k, v])) w') :
    lw P n ops (⟨dst, .next x false, ty, pos, aft, none⟩ :: rest) K ρ w := by
  obtain ⟨F, ⟨⟨arr, clock, since, seen, c0, e1, e2, e3, e4, e5, e6, e7⟩, g2⟩, g3⟩ := hs.turn hi
  rcases run_next_at (P := P) w ty r m since c0 seen arr clock e4 e1 e6 e5.1 with ⟨hz, hr⟩ | ⟨e, he, w1, hw1, hr⟩
  · have : left = [] := by
      have := congrArg List.length e7
      simp only [List.length_map, Array.length_toList] at this
      exact List.eq_nil_of_length_eq_zero (by omega)
    refine lw_val hd (v := .tuple #[.bool false]) (w' := w) ?_ (h0 this)
    simp only [execOp, hx, Sem.run_bind, hr, Result.andThen_ok, Sem.run_pure]
  · obtain ⟨k, v, k1, k2, k3, k4⟩ := map_left (es := es) e3 he e7 e2 inj
    have hne : r ≠ m := fun h => by rw [h] at e4; rw [e4] at e1; cases e1
    have hheap : w1.heap = w.heap := by rcases hw1 with rfl | rfl <;> rfl
    have hlt := lt_of_block e4
    have hset : (ChangeMaps.setBlock w1 r (.mapIter (some m) since (seen.push e.born) clock)).heap = w.heap.setIfInBounds r (.mapIter (some m) since (seen.push e.born) clock) := by simp [ChangeMaps.setBlock, hheap]
    have hk : Keeps F w (ChangeMaps.setBlock w1 r (.mapIter (some m) since (seen.push e.born) clock)) := by
      have hos : ∀ w1, (w1 = w ∨ w1 = w.drew) → w1.os = w.os ∧ w1.tape = w.tape ∧ w1.output = w.output := fun w1 h => by rcases h with rfl | rfl <;> exact ⟨rfl, rfl, rfl⟩
      obtain ⟨a1, a2, a3⟩ := hos w1 hw1
      refine ⟨a1, a2, a3, by rw [hset]; simp, fun b hb hnb => ?_⟩
      rw [hset, Array.getElem?_setIfInBounds_ne (fun h => hnb ((g2 b).2 (.inr h.symm)))]
    refine lw_val hd (v := .tuple #[.bool true, e.key, e.val]) (w' := ChangeMaps.setBlock w1 r (.mapIter (some m) since (seen.push e.born) clock)) ?_ ?_
    · simp only [execOp, hx, Sem.run_bind, hr, Result.andThen_ok, Sem.run_pure]
    · rw [k1, k2]
      refine h1 k v _ k3 (g3 _ _ F ⟨⟨arr, clock, since, seen.push e.born, clock, ?_, e2, e3, ?_, ⟨e5.2, e5.2⟩, e6, k4⟩, g2⟩ (fun b hb => .inl hb) hk)
      · rw [hset, Array.getElem?_setIfInBounds_ne hne]; exact e1
      · rw [hset]; exact Array.getElem?_setIfInBounds_self_of_lt hlt
/-- Behind the range: the map alone. -/
theorem Mem.ranged (hs : Mem g w L) (i : Nat) (hi : L[i]? = some (rangeC enc r m es left)) : Mem g w (L.set i (mapC enc m es)) := by
  obtain ⟨F, ⟨⟨arr, clock, since, seen, c0, e1, e2, e3, e4, e5, e6, e7⟩, g2⟩, g3⟩ := hs.turn hi
  exact g3 w _ (fun x => x = m) ⟨⟨arr, clock, e1, e2, e3⟩, fun _ => Iff.rfl⟩ (fun b hb => .inl ((g2 b).2 (.inl hb))) (Keeps.refl _ _)
end
end Go.Proofs.YtmnfehbnjgmgjaaDoor
