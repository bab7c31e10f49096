/- Slices of structs: many rows appended; rows that can be read. -/
import Derived.Test.YtkogkokmcmallaaGreatDoorZb
namespace Go.Proofs.YtkogkokmcmallaaGreatDoor
set_option linter.all false
open Go.RowKit
variable {P : Program} {n : Nat} {ops : Array Oper} {rest : List Oper} {K : Env → World → Prop} {ρ : Env} {g w : World} {L : List HP} {dst : Option Tmp} {ty : TypeId} {pos : String} {aft : Array Edge}

/-! ### rows that can be read -/
/-- Rows of k cells each lie there. -/
def RowsR (w : World) (k : Nat) (v : Value) (rows : List (List Value)) : Prop :=
  ∃ a n c, v = .slice a n c ∧ n = rows.length ∧ n ≤ c ∧ (rows = [] ∨ ∃ b off, a = some ⟨b, off, none⟩ ∧ b < w.heap.size ∧ ∀ q row, rows[q]? = some row → ∀ j v, row[j]? = some v → w.cell? ⟨b, off + q * k + j, none⟩ = some v)
theorem RowsR.len {k n c : Nat} {a : Option Addr} {rows : List (List Value)} (h : RowsR w k (.slice a n c) rows) : n = rows.length := by
  obtain ⟨a', n', c', hv, hn, _, _⟩ := h
  cases hv
  exact hn
/-- The q-th of them, in a world that has the ground. -/
theorem RowsR.at {k n c : Nat} {a : Option Addr} {rows : List (List Value)} (h : RowsR g k (.slice a n c) rows) (hs : Mem g w L) {q : Nat} {row : List Value} (hq : rows[q]? = some row) : ∃ b off, a = some ⟨b, off, none⟩ ∧ ∀ j v, row[j]? = some v → w.cell? ⟨b, off + q * k + j, none⟩ = some v := by
  obtain ⟨a', n', c', hv, hn, hnc, h⟩ := h
  cases hv
  rcases h with rfl | ⟨b, off, rfl, hb, h⟩
  · simp at hq
  · exact ⟨b, off, rfl, fun j v hj => hs.cellOld (h q row hq j v hj)⟩
theorem RowsR.stay {k : Nat} {v : Value} {rows : List (List Value)} (h : RowsR g k v rows) (hs : Mem g w L) : RowsR w k v rows := by
  obtain ⟨a', n', c', hv, hn, hnc, h⟩ := h
  refine ⟨a', n', c', hv, hn, hnc, ?_⟩
  rcases h with h | ⟨b, off, h1, hb, h⟩
  · exact .inl h
  · exact .inr ⟨b, off, h1, Nat.lt_of_lt_of_le hb hs.size, fun q row hq j v hj => hs.cellOld (h q row hq j v hj)⟩
/-- Rows that can be read wherever the chunks hold. -/
def RdK (g : World) (L : List HP) (k : Nat) (v : Value) (rows : List (List Value)) : Prop := Ens g L fun w => RowsR w k v rows
theorem RowsR.rd {k : Nat} {v : Value} {rows : List (List Value)} (h : RowsR g k v rows) (L : List HP) : RdK g L k v rows := fun _ hs => h.stay hs
theorem RdK.cons {k : Nat} {v : Value} {rows : List (List Value)} {C : HP} (h : RdK g L k v rows) : RdK g (C :: L) k v rows := fun w hs => h w hs.tail
theorem RdK.nil {k : Nat} : RdK g L k (.slice none 0 0) [] := fun _ _ => ⟨none, 0, 0, rfl, rfl, Nat.le_refl _, .inl rfl⟩
theorem RdK.cap {k n c : Nat} {a : Option Addr} {rows : List (List Value)} (h : RdK g L k (.slice a n c) rows) (hs : Mem g w L) : n ≤ c := by
  obtain ⟨a', n', c', hv, hn, hnc, _⟩ := h w hs
  cases hv
  exact hnc
theorem RdK.len {k n c : Nat} {a : Option Addr} {rows : List (List Value)} (h : RdK g L k (.slice a n c) rows) (hs : Mem g w L) : n = rows.length := (h w hs).len
theorem RdK.at {k n c : Nat} {a : Option Addr} {rows : List (List Value)} (h : RdK g L k (.slice a n c) rows) (hs : Mem g w L) (h0 : 0 < rows.length) : ∃ b off, a = some ⟨b, off, none⟩ := by
  obtain ⟨a', n', c', hv, hn, hnc, h⟩ := h w hs
  cases hv
  rcases h with rfl | ⟨b, off, rfl, hb, h⟩
  · simp at h0
  · exact ⟨b, off, rfl⟩
theorem RdK.cell {k n c b off : Nat} {rows : List (List Value)} (h : RdK g L k (.slice (some ⟨b, off, none⟩) n c) rows) (hs : Mem g w L) {q : Nat} {row : List Value} (hq : rows[q]? = some row) {j : Nat} {v : Value} (hj : row[j]? = some v) : w.cell? ⟨b, off + q * k + j, none⟩ = some v := by
  obtain ⟨a', n', c', hv, hn, hnc, h⟩ := h w hs
  simp only [Value.slice.injEq] at hv
  obtain ⟨rfl, rfl, rfl⟩ := hv
  rcases h with rfl | ⟨b', off', he, hb, h⟩
  · simp at hq
  · simp only [Option.some.injEq, Addr.mk.injEq] at he
    obtain ⟨rfl, rfl, _⟩ := he
    exact h q row hq j v hj
theorem rowsV.rows {k : Nat} {v : Value} {rows : List (List Value)} (h : rowsV w k v rows) : RowsR w k v rows := by
  obtain ⟨a, n, c, hv, hn, hc, ha, hr, h⟩ := h
  refine ⟨a, n, c, hv, hn, hc, ?_⟩
  rcases Nat.eq_zero_or_pos rows.length with h0 | h0
  · exact .inl (List.eq_nil_of_length_eq_zero h0)
  · rcases h with h | ⟨b, off, cs, E, rfl, hb, hz, hcs⟩
    · omega
    · refine .inr ⟨b, off, rfl, ha.2 b (by rw [hv]; rfl), fun q row hq j v hj => ?_⟩
      obtain ⟨hqlt, _⟩ := List.getElem?_eq_some_iff.1 hq
      obtain ⟨hjlt, _⟩ := List.getElem?_eq_some_iff.1 hj
      have hrl := (hr row (List.mem_of_getElem? hq)).1
      have hle : (q + 1) * k ≤ n * k := Nat.mul_le_mul_right _ (by omega)
      have hq1 : (q + 1) * k = q * k + k := Nat.succ_mul _ _
      rw [Nat.add_assoc]
      refine cell_at hb ?_
      rw [hcs (q * k + j) (by omega)]
      exact flat_at (fun r hm => (hr r hm).1) hq hj
theorem RdK.row {k : Nat} {v : Value} {rows : List (List Value)} (i : Nat) (hi : L[i]? = some (rowK k v rows)) : RdK g L k v rows := Ens.of i hi fun _ _ h => h.1.rows
/-- The flat cells of rows that can be read. -/
theorem flat_cell {k : Nat} (hk : 0 < k) : ∀ {rows : List (List Value)}, (∀ r ∈ rows, r.length = k) → ∀ {i : Nat} {v : Value}, rows.flatten[i]? = some v → ∃ row, rows[i / k]? = some row ∧ row[i % k]? = some v
  | [], _, i, v, h => by simp at h
  | r :: rows, hr, i, v, h => by
    have hr0 := hr r (List.mem_cons_self ..)
    rw [List.flatten_cons] at h
    by_cases hi : i < k
    · rw [List.getElem?_append_left (by omega)] at h
      exact ⟨r, by rw [Nat.div_eq_of_lt hi]; rfl, by rw [Nat.mod_eq_of_lt hi]; exact h⟩
    · rw [List.getElem?_append_right (by omega), hr0] at h
      obtain ⟨row, h1, h2⟩ := flat_cell hk (fun x hx => hr x (List.mem_cons_of_mem _ hx)) h
      have hi' : k ≤ i := by omega
      refine ⟨row, ?_, ?_⟩
      · rw [Nat.div_eq_sub_div hk hi', List.getElem?_cons_succ]; exact h1
      · rw [Nat.mod_eq_sub_mod hi']; exact h2
theorem RowsR.src {w : World} {tx e : TypeId} {k : Nat} {v : Value} {rows : List (List Value)} (htx : P.underlying tx = some (.slice e)) (hk : 0 < k) (h : RowsR w k v rows) (hr : ∀ r ∈ rows, r.length = k ∧ ∀ u ∈ r, u.oneCell' = true) : Src P k tx v rows.length rows.flatten w := by
  obtain ⟨a, n, c, rfl, hn, hnc, h⟩ := h
  subst hn
  have h1 : ∀ u ∈ rows.flatten, u.oneCell' = true := fun u hu => by
    obtain ⟨r, hr', hu'⟩ := List.mem_flatten.1 hu
    exact (hr r hr').2 u hu'
  rcases h with rfl | ⟨b, off, rfl, hb, h⟩
  · cases a with
    | none => exact Src.ofNil w htx _
    | some a => exact Src.ofSlice w htx a 0 c [] (by simp) (fun q u hq => by simp at hq) (fun u hu => by simp at hu)
  · refine Src.ofSlice w htx ⟨b, off, none⟩ rows.length c rows.flatten (flat_len hr) (fun q u hq => ?_) h1
    obtain ⟨row, h2, h3⟩ := flat_cell hk (fun r hm => (hr r hm).1) hq
    have := h _ row h2 _ u h3
    rw [Addr.add_lit]
    rw [Nat.add_assoc, Nat.div_add_mod' q k] at this
    exact this

theorem guard_sl {op : BinOp} {t : TypeId} {x y : Operand} {a : Option Addr} {m c : Nat} {v : Value} : (eqGuard op t x y (.slice a m c) v).run P w = .ok () w := by cases op <;> rfl
theorem run_eqsn {x y : Operand} {t e u : TypeId} {a : Option Addr} {m c : Nat} (ht : P.underlying t = some (.slice e)) (hx : ev ρ x = .slice a m c) (hy : ev ρ y = .slice none 0 0) : (execOp (ev ρ) ⟨dst, .binOp .eql t x y u, ty, pos, aft, none⟩).run P w = .ok (.value (.bool a.isNone)) w := by
  simp only [execOp, hx, hy, Sem.run_bind, guard_sl, Lib.run_eql_slice_nil w t e a m c 0 0 ht, Result.andThen_ok, Sem.run_pure]
theorem run_sliceToK {x z : Operand} {t e : TypeId} {a : Option Addr} {len c hi q : Nat} {k2 : IntKind} {j : Int} (ht : P.underlying t = some (.slice e)) (hsz : (P.info? e).map (·.size) = some q) (hx : ev ρ x = .slice a len c) (hz : ev ρ z = .int k2 j) (hj : j = hi) (h2 : hi ≤ c) (ha : c = 0 ∨ ∃ b off, a = some ⟨b, off, none⟩) :
    (execOp (ev ρ) ⟨dst, .slice t x none (some z) none, ty, pos, aft, none⟩).run P w = .ok (.value (.slice a hi c)) w := by
  obtain ⟨inf, hinf, hs⟩ := Option.map_eq_some_iff.1 hsz
  have h0 : (if c = 0 then a else a.map (·.add (0 * q))) = a := by
    rcases ha with h | ⟨b, off, rfl⟩
    · rw [if_pos h]
    · split
      · rfl
      · simp [Addr.add_lit]
  simp only [execOp, Option.map_some, Option.map_none, hx, hz, Instr.sliceAt, Sem.run_bind, run_underlying ht, Result.andThen_ok, Instr.slice, Instr.sliceBounds, Option.isSome_none, if_true, Bool.false_eq_true, if_false, run_bound hj h2, Sem.run_pure, sizeOf, typeInfo, program, Sem.run, hinf, hs, Nat.sub_zero, h0]
/-! ### append of many rows -/
theorem run_append_rows {w : World} {t tx ty e : TypeId} {i : TypeInfo} {z : Value} {k : Nat} (ht : P.underlying t = some (.slice e)) (hi : P.info? e = some i) (hz : i.zero = some z) (hk : i.size = k) (hzc : z.cells.size = k)
    {v x : Value} {rows news : List (List Value)} (hn0 : 0 < news.length) (hown : rowsV w k v rows) (hl : ∀ r ∈ news, r.length = k ∧ ∀ u ∈ r, u.oneCell' = true) (hsrc : Src P k tx x news.length news.flatten w) (hb : (rows.length + news.length) * i.bytes ≤ 140737488355328) (hlen : rows.length + news.length ≤ 9223372036854775807) :
    ∃ a c w', (Builtin.append_ #[t, tx] ty #[v, x]).run P w = .ok (.slice a (rows.length + news.length) c) w' ∧ rowsV w' k (.slice a (rows.length + news.length) c) (rows ++ news) ∧ Keeps (fun k => blk v = some k) w w' ∧ (blk (.slice a (rows.length + news.length) c) = blk v ∨ blk (.slice a (rows.length + news.length) c) = some w.heap.size) := by
  obtain ⟨a, n, c, rfl, hn, hc, ha, hr, h⟩ := hown
  subst hn hk
  have hfl := flat_len hr
  have hfn := flat_len hl
  have hr2 : ∀ r ∈ rows ++ news, r.length = i.size ∧ ∀ u ∈ r, u.oneCell' = true := fun r hm => by
    rcases List.mem_append.1 hm with hm | hm
    · exact hr r hm
    · exact hl r hm
  have hmul : (rows.length + news.length) * i.size = rows.length * i.size + news.length * i.size := Nat.add_mul _ _ _
  by_cases hroom : rows.length + news.length ≤ c
  · rcases h with h | ⟨b, off, cs, E, rfl, hb', hcap, hcs⟩
    · omega
    · have hcm : (rows.length + news.length) * i.size ≤ c * i.size := Nat.mul_le_mul_right _ hroom
      obtain ⟨cs', h2, hsz, hlo, hmid, _, hk, hz2⟩ := heap_setCells news.flatten (off + rows.length * i.size) w cs hb' (by omega)
      have hr' := run_append_room_src (P := P) w t tx ty e i ht hi b off rows.length c x news.length news.flatten hsrc hroom
        (fun j hj => by rw [cell_at hb' (Array.getElem?_eq_getElem (by omega))]; rfl) (fun j _ => free_at hb')
      refine ⟨_, _, _, hr', ⟨_, _, _, rfl, by simp, hroom, ⟨(fun h => by cases h), fun b' hb' => by rw [hz2]; exact ha.2 b' hb'⟩, hr2, .inr ⟨b, off, cs', E, rfl, h2, by omega, fun j hj => ?_⟩⟩, hk.mono (fun k _ hk => by simp [blk, hk]), .inl rfl⟩
      rw [List.flatten_append]
      by_cases hj' : j < rows.length * i.size
      · rw [hlo (off + j) (by omega), hcs j hj', List.getElem?_append_left (by omega)]
      · have := hmid (j - rows.length * i.size) (by omega)
        rw [show off + rows.length * i.size + (j - rows.length * i.size) = off + j by omega] at this
        rw [this, List.getElem?_append_right (by omega), hfl]
  · have hold : (Builtin.firstCells i.size rows.length (.slice a rows.length c)).run P w.drew = .ok rows.flatten.toArray w.drew := by
      cases a with
      | none =>
        have hc0 := ha.1 rfl
        have : rows = [] := List.eq_nil_of_length_eq_zero (by omega)
        subst this
        exact run_firstCells_none w.drew i.size 0 0 c
      | some a =>
        refine run_firstCells_some w.drew i.size rows.length a rows.length c rows.flatten (by rw [hfl]) (fun j u hj => ?_)
        have hjl := (List.getElem?_eq_some_iff.1 hj).1
        rcases h with h | ⟨b, off, cs, E, ha', hb, _, hcs⟩
        · have : rows.length = 0 := by omega
          rw [hfl, this] at hjl
          omega
        · obtain rfl := Option.some.inj ha'
          rw [Addr.add_lit]
          exact cell_at hb (by rw [hcs j (by omega), hj])
    have hr' := run_append_grow_src (P := P) w t tx ty e i z ht hi hz a rows.length c rows.flatten hold x news.length news.flatten hsrc (by omega) (by omega) (growslice_fits (by omega) hb)
    have hge := grownCap_ge w (rows.length + news.length) c e
    refine ⟨_, _, _, hr', ⟨_, _, _, rfl, by simp, hge, ⟨(fun h => by cases h), fun b' hb' => by cases hb'; simp⟩, hr2, .inr ⟨_, 0, _, e, rfl, heap_alloc_new _ _, ?_, fun j hj => ?_⟩⟩, ((Keeps.refl _ w).drew).alloc _, .inr rfl⟩
    · simp only [Array.size_append, List.size_toArray, List.length_append, size_zeroCells, hzc, hfl, hfn, Nat.zero_add]
      have e1 : (grownCap w (rows.length + news.length) c e) * i.size = (rows.length + news.length) * i.size + (grownCap w (rows.length + news.length) c e - (rows.length + news.length)) * i.size := by rw [← Nat.add_mul]; congr 1; omega
      omega
    · rw [Nat.zero_add, Array.getElem?_append_left (by simp only [List.size_toArray, List.length_append, hfl, hfn]; omega), List.getElem?_toArray]
      simp
theorem lw_appendRows (hs : Mem g w L) (hd : okd n dst = true) (i : Nat) {x y : Operand} {t tx e : TypeId} {v xv : Value} {rows news : List (List Value)} {k : Nat} (hi : L[i]? = some (rowK k v rows)) (hn0 : 0 < news.length) {z : Value} {by_ : Nat}
    (ht : P.underlying t = some (.slice e)) (hsz : (P.info? e).map (fun i => (i.zero, i.size, i.bytes)) = some (some z, k, by_)) (hzc : z.cells.size = k) (hl : ∀ r ∈ news, r.length = k ∧ ∀ u ∈ r, u.oneCell' = true)
    (hx : ev ρ x = v) (hy : ev ρ y = xv) (hsrc : Src P k tx xv news.length news.flatten w) (hb : (rows.length + news.length) * by_ ≤ 140737488355328) (hlen : rows.length + news.length ≤ 9223372036854775807)
    (h : ∀ a c w', Mem g w' (L.set i (rowK k (.slice a (rows.length + news.length) c) (rows ++ news))) → lw P n ops rest K (updo ρ dst (.slice a (rows.length + news.length) c)) w') :
    lw P n ops (⟨dst, .call { callee := .builtin .append, args := #[x, y], argTypes := #[t, tx] }, ty, pos, aft, none⟩ :: rest) K ρ w := by
  obtain ⟨inf, hinf, hz⟩ := Option.map_eq_some_iff.1 hsz
  simp only [Prod.mk.injEq] at hz
  obtain ⟨F, ⟨g1, g2⟩, g3⟩ := hs.turn hi
  obtain ⟨a, c, w', hrun, k1, k2, k3⟩ := run_append_rows (ty := ty) ht hinf hz.1 hz.2.1 hzc hn0 g1 hl hsrc (by rw [hz.2.2]; exact hb) hlen
  refine lw_val hd (v := .slice a (rows.length + news.length) c) (w' := w') ?_ (h a c w' (g3 w' _ (fun x => blk (.slice a (rows.length + news.length) c) = some x) ⟨k1, fun _ => Iff.rfl⟩ (fun b hb => ?_) (k2.mono fun x _ e => (g2 x).2 e)))
  · subst hx hy
    simp only [execOp, resolve, invoke, builtin]
    have hmm : (#[x, y] : Array Operand).map (ev ρ) = #[ev ρ x, ev ρ y] := by simp
    simp only [hmm, Sem.run_bind, Sem.run_pure, hrun, Result.andThen_ok]
  · rcases k3 with e | e
    · exact .inl ((g2 b).2 (e ▸ hb))
    · rw [e] at hb; cases hb; exact .inr (Nat.le_refl _)
/-- An append of nothing. -/
theorem lw_appendRows0 (hd : okd n dst = true) {x y : Operand} {t tx e : TypeId} {b : Nat} {xv : Value} {k : Nat} {z : Value} {by_ : Nat} (ht : P.underlying t = some (.slice e)) (hsz : (P.info? e).map (fun i => (i.zero, i.size, i.bytes)) = some (some z, k, by_))
    (hx : ev ρ x = .slice (some ⟨b, 0, none⟩) 0 0) (hy : ev ρ y = xv) (hsrc : Src P k tx xv 0 [] w) (h : lw P n ops rest K (updo ρ dst (.slice (some ⟨b, 0, none⟩) 0 0)) w) :
    lw P n ops (⟨dst, .call { callee := .builtin .append, args := #[x, y], argTypes := #[t, tx] }, ty, pos, aft, none⟩ :: rest) K ρ w := by
  obtain ⟨inf, hinf, hz⟩ := Option.map_eq_some_iff.1 hsz
  simp only [Prod.mk.injEq] at hz
  obtain ⟨hz1, rfl, _⟩ := hz
  refine lw_val hd (v := .slice (some ⟨b, 0, none⟩) 0 0) (w' := w) ?_ h
  subst hy
  have hc0 := hsrc.cells
  have hl0 := hsrc.len
  have hr : (Builtin.append_ #[t, tx] ty #[.slice (some ⟨b, 0, none⟩) 0 0, ev ρ y]).run P w = .ok (.slice (some ⟨b, 0, none⟩) 0 0) w := by
    rcases hsrc.kind with ⟨e', hk⟩ | hk <;> simp [Builtin.append_, run_underlying ht, run_underlying hk, sizeOf, typeInfo, hinf, hl0, hc0, storeCells]
  simp only [execOp, resolve, invoke, builtin]
  have hmm : (#[x, y] : Array Operand).map (ev ρ) = #[ev ρ x, ev ρ y] := by simp
  simp only [hmm, hx, Sem.run_bind, Sem.run_pure, hr, Result.andThen_ok]
/-- An empty block is an empty slice of one's own. -/
theorem Mem.noRows (hs : Mem g w L) (i : Nat) {b k : Nat} {T : TypeId} (hi : L[i]? = some (cells b [] T)) : Mem g w (L.set i (rowK k (.slice (some ⟨b, 0, none⟩) 0 0) [])) := by
  obtain ⟨F, ⟨g1, g2⟩, g3⟩ := hs.turn hi
  have hb : b < w.heap.size := (Array.getElem?_eq_some_iff.1 g1).1
  exact g3 w _ F ⟨⟨_, 0, 0, rfl, rfl, Nat.le_refl _, ⟨fun h => rfl, fun x hx => by cases hx; exact hb⟩, fun r h => by simp at h, .inl rfl⟩, fun x => by rw [g2 x]; simp [blk, eq_comm]⟩ (fun _ h => .inl h) (Keeps.refl _ _)
/-- A literal of no structs. -/
theorem lw_buildNone (hs : Mem g w L) (hd : okd n dst = true) {t e : TypeId} {z : Value} {k by_ : Nat} (ht : P.underlying t = some (.slice e)) (hsz : (P.info? e).map (fun i => (i.zero, i.size, i.bytes)) = some (some z, k, by_))
    (h : ∀ b w', Mem g w' (rowK k (.slice (some ⟨b, 0, none⟩) 0 0) [] :: L) → lw P n ops rest K (updo ρ dst (.slice (some ⟨b, 0, none⟩) 0 0)) w') :
    lw P n ops (⟨dst, .buildSlice t 0 #[], ty, pos, aft, none⟩ :: rest) K ρ w := by
  obtain ⟨inf, hinf, hz⟩ := Option.map_eq_some_iff.1 hsz
  simp only [Prod.mk.injEq] at hz
  refine lw_val hd (v := .slice (some ⟨w.heap.size, 0, none⟩) 0 0) (w' := w.alloc (.cells #[] e)) ?_ (h _ _ ((hs.new [] e).noRows 0 rfl))
  have hr : (Instr.buildSlice t 0 #[]).run P w = .ok (.slice (some ⟨w.heap.size, 0, none⟩) 0 0) (w.alloc (.cells #[] e)) := by simp [Instr.buildSlice, run_underlying ht, sizeOf, typeInfo, zeroValue, hinf, newRow, Instr.fill, show Array.range 0 = #[] from by simp]
  simp only [execOp, Array.map_empty, Sem.run_bind, Sem.run_pure]
  first
  | simp only [hr, Result.andThen_ok, Sem.run_pure]
  | (have e1 : (fun (x : Nat × Operand) => match x with | (i, x) => (i, ev ρ x)) = fun p => (p.1, ev ρ p.2) := by funext ⟨_, _⟩; rfl
     simp [hr, Result.andThen_ok])
/-- make of structs, with room. -/
theorem lw_makeRows (hs : Mem g w L) (hd : okd n dst = true) {x y : Operand} {t e : TypeId} {c k : Nat} {kl kc : IntKind} {j : Int} {z : Value} {by_ : Nat} (ht : P.underlying t = some (.slice e)) (hsz : (P.info? e).map (fun i => (i.zero, i.size, i.bytes)) = some (some z, k, by_))
    (hx : ev ρ x = .int kl 0) (hy : ev ρ y = .int kc j) (hj : j = c) (hb : by_ * c ≤ 281474976710656) (h63 : c ≤ 9223372036854775807)
    (h : ∀ b w', Mem g w' (rowK k (.slice (some ⟨b, 0, none⟩) 0 c) [] :: L) → lw P n ops rest K (updo ρ dst (.slice (some ⟨b, 0, none⟩) 0 c)) w') :
    lw P n ops (⟨dst, .makeSlice t x y, ty, pos, aft, none⟩ :: rest) K ρ w := by
  subst hj
  obtain ⟨inf, hinf, hz⟩ := Option.map_eq_some_iff.1 hsz
  simp only [Prod.mk.injEq] at hz
  obtain ⟨hz1, hz2, hz3⟩ := hz
  have hr := run_make (P := P) w t e inf z ht hinf hz1 kl kc 0 c (by omega) (by omega) (by rw [hz3]; omega) (by omega)
  simp only [Int.toNat_natCast, hz2, Int.toNat_zero] at hr
  refine lw_val hd (v := .slice (some ⟨w.heap.size, 0, none⟩) 0 c) (w' := w.alloc (.cells (madeCells z.cells (c * k)) e)) ?_ (h _ _ (hs.add (F' := fun x => blk (.slice (some ⟨w.heap.size, 0, none⟩) 0 c) = some x) ⟨?_, fun _ => Iff.rfl⟩ (fun b hb => ?_) ((Keeps.refl _ _).alloc _)))
  · simp only [execOp, hx, hy, Sem.run_bind, hr, Result.andThen_ok, Sem.run_pure]
    first | done | rfl | simp
  · refine ⟨_, _, _, rfl, rfl, Nat.zero_le _, ⟨(fun h => by cases h), fun x hx => ?_⟩, (fun r h => by simp at h), .inr ⟨w.heap.size, 0, madeCells z.cells (c * k), e, rfl, World.alloc_heap_new w _, by rw [size_madeCells]; omega, fun i hi => by omega⟩⟩
    simp only [blk, Option.some.injEq] at hx
    subst hx
    exact lt_of_block (World.alloc_heap_new w _)
  · simp only [blk, Option.some.injEq] at hb
    omega
/-- A literal of two structs. -/
theorem lw_build2 (hs : Mem g w L) (hd : okd n dst = true) {t e : TypeId} {x y : Operand} {z : Value} {k : Nat} {r1 r2 : List Value} (ht : P.underlying t = some (.slice e)) (hsz : (P.info? e).map (fun i => (i.zero, i.size)) = some (some z, k)) (hx : ev ρ x = .agg r1.toArray) (hy : ev ρ y = .agg r2.toArray)
    (hf : Instr.fill (fun i => some (i * k, k)) ((Array.range (2 * k)).map (z.cells[· % z.cells.size]!)) [(0, .agg r1.toArray), (1, .agg r2.toArray)] = some (r1 ++ r2).toArray) (hk : 0 < k) (hk2 : k ≤ 1000)
    (h : ∀ b w', Mem g w' (cells b (r1 ++ r2) e :: L) → lw P n ops rest K (updo ρ dst (.slice (some ⟨b, 0, none⟩) 2 2)) w') :
    lw P n ops (⟨dst, .buildSlice t 2 #[(0, x), (1, y)], ty, pos, aft, none⟩ :: rest) K ρ w := by
  obtain ⟨inf, hinf, hz⟩ := Option.map_eq_some_iff.1 hsz
  simp only [Prod.mk.injEq] at hz
  refine lw_val hd (v := .slice (some ⟨w.heap.size, 0, none⟩) 2 2) (w' := w.alloc (.cells (r1 ++ r2).toArray e)) ?_ (h _ _ (hs.new (r1 ++ r2) e))
  have hr := run_buildSlice (P := P) w t e 2 #[(0, .agg r1.toArray), (1, .agg r2.toArray)] (r1 ++ r2).toArray inf z ht hinf hz.1 (by rw [hz.2]; omega) (by rw [hz.2]; omega) (by rw [hz.2]; exact hf)
  have hmm : (#[(0, x), (1, y)] : Array (Nat × Operand)).map (fun (p : Nat × Operand) => (p.1, ev ρ p.2)) = #[(0, ev ρ x), (1, ev ρ y)] := by simp
  have e1 : (fun (x : Nat × Operand) => match x with | (i, x) => (i, ev ρ x)) = fun p => (p.1, ev ρ p.2) := by funext ⟨_, _⟩; rfl
  simp only [execOp, e1, hmm, hx, hy, Sem.run_bind, hr, Result.andThen_ok, Sem.run_pure]
/-- A block of cells as rows. -/
theorem Mem.asRows (hs : Mem g w L) (i : Nat) {b k m : Nat} {cs : List Value} {T : TypeId} {rows : List (List Value)} (hi : L[i]? = some (cells b cs T)) (hf : rows.flatten = cs) (hm : m = rows.length) (hr : ∀ r ∈ rows, r.length = k ∧ ∀ u ∈ r, u.oneCell' = true) : Mem g w (L.set i (rowK k (.slice (some ⟨b, 0, none⟩) m m) rows)) := by
  subst hm
  obtain ⟨F, ⟨g1, g2⟩, g3⟩ := hs.turn hi
  have hb : b < w.heap.size := (Array.getElem?_eq_some_iff.1 g1).1
  have hl := flat_len hr
  refine g3 w _ F ⟨⟨_, rows.length, rows.length, rfl, rfl, Nat.le_refl _, ⟨fun h => (by cases h), fun x hx => by cases hx; exact hb⟩, hr, .inr ⟨b, 0, cs.toArray, T, rfl, g1, by simp only [List.size_toArray, ← hf, hl]; omega, fun j hj => by rw [Nat.zero_add, hf]; simp⟩⟩, fun x => by rw [g2 x]; simp [blk, eq_comm]⟩ (fun _ h => .inl h) (Keeps.refl _ _)
/-- One struct's block as a slice of one. -/
theorem RdK.one {b k : Nat} {cs : List Value} {T : TypeId} (i : Nat) (hi : L[i]? = some (cells b cs T)) (hk : cs.length = k) : RdK g L k (.slice (some ⟨b, 0, none⟩) 1 1) [cs] := fun w hs => by
  obtain ⟨F, h, _⟩ := hs.read hi
  refine ⟨_, 1, 1, rfl, rfl, Nat.le_refl _, .inr ⟨b, 0, rfl, lt_of_block h, fun q row hq j v hj => ?_⟩⟩
  cases q with
  | zero => simp only [List.getElem?_cons_zero, Option.some.injEq] at hq; subst hq; simp only [Nat.zero_mul, Nat.zero_add]; exact hs.cellAt i hi hj
  | succ q => simp at hq
end Go.Proofs.YtkogkokmcmallaaGreatDoor
