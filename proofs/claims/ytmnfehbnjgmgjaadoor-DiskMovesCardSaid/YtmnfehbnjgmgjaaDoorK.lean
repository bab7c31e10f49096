/- Slices of structs: rows of k cells each; append of one struct, literals of one, reading of one. -/
import Derived.Test.YtmnfehbnjgmgjaaDoorR
namespace Go.Proofs.YtmnfehbnjgmgjaaDoor
set_option linter.all false
open Go.RowKit
variable {P : Program} {n : Nat} {ops : Array Oper} {rest : List Oper} {K : Env → World → Prop} {ρ : Env} {g w : World} {L : List HP} {dst : Option Tmp} {ty : TypeId} {pos : String} {aft : Array Edge}

/-- A slice of one's own, of structs of k cells. -/
def rowsV (w : World) (k : Nat) (v : Value) (rows : List (List Value)) : Prop :=
  ∃ a n c, v = .slice a n c ∧ n = rows.length ∧ n ≤ c ∧ ((a = none → c = 0) ∧ ∀ b, blk v = some b → b < w.heap.size) ∧ (∀ r ∈ rows, r.length = k ∧ ∀ u ∈ r, u.oneCell' = true) ∧
    (c = 0 ∨ ∃ b off cs E, a = some ⟨b, off, none⟩ ∧ w.heap[b]? = some (.cells cs E (0, 0)) ∧ off + c * k ≤ cs.size ∧ ∀ i, i < n * k → cs[off + i]? = rows.flatten[i]?)
def rowK (k : Nat) (v : Value) (rows : List (List Value)) : HP where
  ok F w := rowsV w k v rows ∧ ∀ x, F x ↔ blk v = some x
  loc := fun {F w w'} ⟨⟨a, n, c, hv, hn, hc, ha, hr, h⟩, hF⟩ kk => by
    subst hv
    have hk : ∀ b, blk (.slice a n c) = some b → w'.heap[b]? = w.heap[b]? := fun b hb => kk b ((hF b).2 hb)
    refine ⟨⟨a, n, c, rfl, hn, hc, ⟨ha.1, fun b hb => lt_keep (ha.2 b hb) (hk b hb)⟩, hr, ?_⟩, hF⟩
    rcases h with h | ⟨b, off, cs, E, rfl, hb, r⟩
    · exact .inl h
    · exact .inr ⟨b, off, cs, E, rfl, (hk b rfl).trans hb, r⟩
  lt := fun ⟨⟨a, n, c, hv, hn, hc, ha, hr, h⟩, hF⟩ hb => ha.2 _ ((hF _).1 hb)
theorem rowK_nil (k : Nat) (w : World) : (rowK k (.slice none 0 0) []).ok (fun _ => False) w := ⟨⟨none, 0, 0, rfl, rfl, Nat.le_refl _, ⟨fun _ => rfl, fun _ h => by cases h⟩, fun _ h => by simp at h, .inl rfl⟩, fun _ => ⟨fun h => h.elim, fun h => by cases h⟩⟩
theorem rows_slice {i k : Nat} {v : Value} {rows : List (List Value)} (hs : Mem g w L) (hi : L[i]? = some (rowK k v rows)) : ∃ a n c, v = .slice a n c ∧ n = rows.length := by
  obtain ⟨F, ⟨⟨a, n, c, h1, h2, _⟩, _⟩⟩ := hs.read hi
  exact ⟨a, n, c, h1, h2⟩
theorem flat_len {k : Nat} : ∀ {rows : List (List Value)}, (∀ r ∈ rows, r.length = k ∧ ∀ u ∈ r, u.oneCell' = true) → rows.flatten.length = rows.length * k
  | [], _ => by simp
  | r :: rows, h => by
    have ih := flat_len (rows := rows) fun x hx => h x (List.mem_cons_of_mem _ hx)
    simp only [List.flatten_cons, List.length_append, List.length_cons, ih, (h r (List.mem_cons_self ..)).1, Nat.succ_mul]
    omega
theorem flat_at {k : Nat} : ∀ {rows : List (List Value)} {q : Nat} {row : List Value}, (∀ r ∈ rows, r.length = k) → rows[q]? = some row → ∀ {j : Nat} {v : Value}, row[j]? = some v → rows.flatten[q * k + j]? = some v
  | [], _, _, _, h, _, _, _ => by simp at h
  | r :: rows, q, row, hr, hq, j, v, hj => by
    have hr0 := hr r (List.mem_cons_self ..)
    obtain ⟨hjlt, _⟩ := List.getElem?_eq_some_iff.1 hj
    rw [List.flatten_cons]
    cases q with
    | zero =>
      simp only [List.getElem?_cons_zero, Option.some.injEq] at hq
      subst hq
      rw [Nat.zero_mul, Nat.zero_add, List.getElem?_append_left hjlt]
      exact hj
    | succ q =>
      have h1 : (q + 1) * k = q * k + k := Nat.succ_mul _ _
      rw [List.getElem?_append_right (by omega), hr0, show (q + 1) * k + j - k = q * k + j by omega]
      exact flat_at (fun x hx => hr x (List.mem_cons_of_mem _ hx)) (by simpa using hq) hj
theorem run_append_row {w : World} {t tx ty e : TypeId} {i : TypeInfo} {z : Value} {k : Nat} (ht : P.underlying t = some (.slice e)) (hi : P.info? e = some i) (hz : i.zero = some z) (hk : i.size = k) (hzc : z.cells.size = k)
    {v x : Value} {rows : List (List Value)} {row : List Value} (hown : rowsV w k v rows) (hl : row.length = k) (h1 : ∀ u ∈ row, u.oneCell' = true) (hsrc : Src P k tx x 1 row w) (hb : (rows.length + 1) * i.bytes ≤ 140737488355328) (hlen : rows.length + 1 ≤ 9223372036854775807) :
    ∃ a c w', (Builtin.append_ #[t, tx] ty #[v, x]).run P w = .ok (.slice a (rows.length + 1) c) w' ∧ rowsV w' k (.slice a (rows.length + 1) c) (rows ++ [row]) ∧ Keeps (fun k => blk v = some k) w w' ∧ (blk (.slice a (rows.length + 1) c) = blk v ∨ blk (.slice a (rows.length + 1) c) = some w.heap.size) := by
  obtain ⟨a, n, c, rfl, hn, hc, ha, hr, h⟩ := hown
  subst hn hk
  have hfl := flat_len hr
  have hr2 : ∀ r ∈ rows ++ [row], r.length = i.size ∧ ∀ u ∈ r, u.oneCell' = true := fun r hm => by
    rcases List.mem_append.1 hm with hm | hm
    · exact hr r hm
    · simp only [List.mem_cons, List.not_mem_nil, or_false] at hm; subst hm; exact ⟨hl, h1⟩
  have hmul : (rows.length + 1) * i.size = rows.length * i.size + i.size := Nat.succ_mul _ _
  by_cases hroom : rows.length + 1 ≤ c
  · rcases h with h | ⟨b, off, cs, E, rfl, hb', hcap, hcs⟩
    · omega
    · have hcm : (rows.length + 1) * i.size ≤ c * i.size := Nat.mul_le_mul_right _ hroom
      obtain ⟨cs', h2, hsz, hlo, hmid, _, hk, hz2⟩ := heap_setCells row (off + rows.length * i.size) w cs hb' (by omega)
      have hr' := run_append_room_src (P := P) w t tx ty e i ht hi b off rows.length c x 1 row hsrc hroom
        (fun j hj => by rw [cell_at hb' (Array.getElem?_eq_getElem (by omega))]; rfl) (fun j _ => free_at hb')
      refine ⟨_, _, _, hr', ⟨_, _, _, rfl, by simp, hroom, ⟨(fun h => by cases h), fun b' hb' => by rw [hz2]; exact ha.2 b' hb'⟩, hr2, .inr ⟨b, off, cs', E, rfl, h2, by omega, fun j hj => ?_⟩⟩, hk.mono (fun k _ hk => by simp [blk, hk]), .inl rfl⟩
      rw [List.flatten_append, List.flatten_cons, List.flatten_nil, List.append_nil]
      by_cases hj' : j < rows.length * i.size
      · rw [hlo (off + j) (by omega), hcs j hj', List.getElem?_append_left (by omega)]
      · have := hmid (j - rows.length * i.size) (by omega)
        rw [show off + rows.length * i.size + (j - rows.length * i.size) = off + j by omega] at this
        rw [this, List.getElem?_append_right (by omega), hfl]
  · have hold : (Builtin.firstCells i.size rows.length (.slice a rows.length c)).run P w.drew = .ok rows.flatten.toArray w.drew := by
      cases a with
      | none =>
        have hc0 := ha.1 rfl
        have : rows = [] := List.eq_nil_of_length_eq_zero (by omega)
        subst this
        exact run_firstCells_none w.drew i.size 0 0 c
      | some a =>
        refine run_firstCells_some w.drew i.size rows.length a rows.length c rows.flatten (by rw [hfl]) (fun j u hj => ?_)
        have hjl := (List.getElem?_eq_some_iff.1 hj).1
        rcases h with h | ⟨b, off, cs, E, ha', hb, _, hcs⟩
        · have : rows.length = 0 := by omega
          rw [hfl, this] at hjl
          omega
        · obtain rfl := Option.some.inj ha'
          rw [Addr.add_lit]
          exact cell_at hb (by rw [hcs j (by omega), hj])
    have hr' := run_append_grow_src (P := P) w t tx ty e i z ht hi hz a rows.length c rows.flatten hold x 1 row hsrc (by omega) (by omega) (growslice_fits (by omega) hb)
    have hge := grownCap_ge w (rows.length + 1) c e
    refine ⟨_, _, _, hr', ⟨_, _, _, rfl, by simp, hge, ⟨(fun h => by cases h), fun b' hb' => by cases hb'; simp⟩, hr2, .inr ⟨_, 0, _, e, rfl, heap_alloc_new _ _, ?_, fun j hj => ?_⟩⟩, ((Keeps.refl _ w).drew).alloc _, .inr rfl⟩
    · simp only [Array.size_append, List.size_toArray, List.length_append, size_zeroCells, hzc, hfl, hl, Nat.zero_add]
      have e1 : (grownCap w (rows.length + 1) c e) * i.size = (rows.length + 1) * i.size + (grownCap w (rows.length + 1) c e - (rows.length + 1)) * i.size := by rw [← Nat.add_mul]; congr 1; omega
      omega
    · rw [Nat.zero_add, Array.getElem?_append_left (by simp only [List.size_toArray, List.length_append, hfl, hl]; omega), List.getElem?_toArray]
      simp
theorem lw_appendRow (hs : Mem g w L) (hd : okd n dst = true) (i j : Nat) {x y : Operand} {t tx e : TypeId} {v : Value} {rows : List (List Value)} {row : List Value} {k b : Nat} {T : TypeId} (hi : L[i]? = some (rowK k v rows)) (hj : L[j]? = some (cells b row T)) {z : Value} {by_ : Nat}
    (ht : P.underlying t = some (.slice e)) (htx : P.underlying tx = some (.slice e)) (hsz : (P.info? e).map (fun i => (i.zero, i.size, i.bytes)) = some (some z, k, by_)) (hzc : z.cells.size = k) (hl : row.length = k) (h1 : row.all (·.oneCell') = true)
    (hx : ev ρ x = v) (hy : ev ρ y = .slice (some ⟨b, 0, none⟩) 1 1) (hb : (rows.length + 1) * by_ ≤ 140737488355328) (hlen : rows.length + 1 ≤ 9223372036854775807)
    (h : ∀ a c w', Mem g w' (L.set i (rowK k (.slice a (rows.length + 1) c) (rows ++ [row]))) → lw P n ops rest K (updo ρ dst (.slice a (rows.length + 1) c)) w') :
    lw P n ops (⟨dst, .call { callee := .builtin .append, args := #[x, y], argTypes := #[t, tx] }, ty, pos, aft, none⟩ :: rest) K ρ w := by
  obtain ⟨inf, hinf, hz⟩ := Option.map_eq_some_iff.1 hsz
  simp only [Prod.mk.injEq] at hz
  obtain ⟨F, ⟨g1, g2⟩, g3⟩ := hs.turn hi
  have h1' : ∀ u ∈ row, u.oneCell' = true := by simpa [List.all_eq_true] using h1
  have hsrc : Src P k tx (.slice (some ⟨b, 0, none⟩) 1 1) 1 row w := Src.ofSlice w htx ⟨b, 0, none⟩ 1 1 row (by omega) (fun q u hq => by rw [Addr.add_lit, Nat.zero_add]; exact hs.cellAt j hj hq) h1'
  obtain ⟨a, c, w', hrun, k1, k2, k3⟩ := run_append_row (ty := ty) ht hinf hz.1 hz.2.1 hzc g1 hl h1' hsrc (by rw [hz.2.2]; exact hb) hlen
  refine lw_val hd (v := .slice a (rows.length + 1) c) (w' := w') ?_ (h a c w' (g3 w' _ (fun x => blk (.slice a (rows.length + 1) c) = some x) ⟨k1, fun _ => Iff.rfl⟩ (fun b hb => ?_) (k2.mono fun x _ e => (g2 x).2 e)))
  · subst hx
    simp only [execOp, resolve, invoke, builtin]
    have hmm : (#[x, y] : Array Operand).map (ev ρ) = #[ev ρ x, ev ρ y] := by simp
    simp only [hmm, hy, Sem.run_bind, Sem.run_pure, hrun, Result.andThen_ok]
  · rcases k3 with e | e
    · exact .inl ((g2 b).2 (e ▸ hb))
    · rw [e] at hb; cases hb; exact .inr (Nat.le_refl _)
/-- A literal of one struct. -/
theorem lw_buildRow (hs : Mem g w L) (hd : okd n dst = true) {t e : TypeId} {x : Operand} {z : Value} {k : Nat} {row : List Value} (ht : P.underlying t = some (.slice e)) (hsz : (P.info? e).map (fun i => (i.zero, i.size)) = some (some z, k)) (hx : ev ρ x = .agg row.toArray)
    (hf : Instr.fill (fun i => some (i * k, k)) ((Array.range (1 * k)).map (z.cells[· % z.cells.size]!)) [(0, .agg row.toArray)] = some row.toArray) (hk : 0 < k) (hk2 : k ≤ 1000)
    (h : ∀ b w', Mem g w' (cells b row e :: L) → lw P n ops rest K (updo ρ dst (.slice (some ⟨b, 0, none⟩) 1 1)) w') :
    lw P n ops (⟨dst, .buildSlice t 1 #[(0, x)], ty, pos, aft, none⟩ :: rest) K ρ w := by
  obtain ⟨inf, hinf, hz⟩ := Option.map_eq_some_iff.1 hsz
  simp only [Prod.mk.injEq] at hz
  refine lw_val hd (v := .slice (some ⟨w.heap.size, 0, none⟩) 1 1) (w' := w.alloc (.cells row.toArray e)) ?_ (h _ _ (hs.new row e))
  have hr := run_buildSlice (P := P) w t e 1 #[(0, .agg row.toArray)] row.toArray inf z ht hinf hz.1 (by rw [hz.2]; omega) (by rw [hz.2]; omega) (by rw [hz.2]; exact hf)
  have hmm : (#[(0, x)] : Array (Nat × Operand)).map (fun (p : Nat × Operand) => (p.1, ev ρ p.2)) = #[(0, ev ρ x)] := by simp
  have e1 : (fun (x : Nat × Operand) => match x with | (i, x) => (i, ev ρ x)) = fun p => (p.1, ev ρ p.2) := by funext ⟨_, _⟩; rfl
  simp only [execOp, e1, hmm, hx, Sem.run_bind, hr, Result.andThen_ok, Sem.run_pure]
/-- A struct's place in a slice of them. -/
theorem run_indexAddrK {x y : Operand} {t e : TypeId} {k : IntKind} {b o i n c o' q : Nat} {z : Int} (ht : P.underlying t = some (.slice e)) (hsz : (P.info? e).map (·.size) = some q) (hx : ev ρ x = .slice (some ⟨b, o, none⟩) n c) (hy : ev ρ y = .int k z) (hz : z = i) (hi : i < n) (ho : o + i * q = o') :
    (execOp (ev ρ) ⟨dst, .indexAddr t x y, ty, pos, aft, none⟩).run P w = .ok (.value (.pointer (some ⟨b, o', none⟩))) w := by
  subst hz
  obtain ⟨inf, hinf, hz⟩ := Option.map_eq_some_iff.1 hsz
  simp [execOp, Instr.indexAt, run_underlying ht, hx, hy, asIntOf, hi, sizeOf, typeInfo, hinf, hz, Addr.add_lit, ho]
/-- A whole struct is read, wherever it lies. -/
theorem run_loadK {x : Operand} {t : TypeId} {b o : Nat} {cs : List Value} {fs : Array Field} (ht : P.underlying t = some (.struct fs)) (hsz : (P.info? t).map (·.size) = some cs.length) (hx : ev ρ x = .pointer (some ⟨b, o, none⟩)) (hc : ∀ j v, cs[j]? = some v → w.cell? ⟨b, o + j, none⟩ = some v) :
    (execOp (ev ρ) ⟨dst, .load t x, ty, pos, aft, none⟩).run P w = .ok (.value (.agg cs.toArray)) w := by
  obtain ⟨inf, hinf, hz⟩ := Option.map_eq_some_iff.1 hsz
  have hagg : (isAgg t).run P w = .ok true w := by simp [isAgg, run_underlying ht]
  have hl := run_loadCells_list (P := P) w ⟨b, o, none⟩ cs (fun j v hj => by rw [Addr.add_lit]; exact hc j v hj)
  simp [execOp, Instr.loadAt, hx, Instr.sureAddr, loadVar, hagg, sizeOf, typeInfo, hinf, hz, hl]
/-- The cells of the i-th struct. -/
theorem Mem.rowAt (hs : Mem g w L) (i : Nat) {k m c : Nat} {b off : Nat} {rows : List (List Value)} (hi : L[i]? = some (rowK k (.slice (some ⟨b, off, none⟩) m c) rows)) {q : Nat} {row : List Value} (hq : rows[q]? = some row) : ∀ j v, row[j]? = some v → w.cell? ⟨b, off + q * k + j, none⟩ = some v := by
  obtain ⟨F, ⟨⟨a, n, c', hv, hn, hc, ha, hr, h⟩, _⟩⟩ := hs.read hi
  simp only [Value.slice.injEq] at hv
  obtain ⟨rfl, rfl, rfl⟩ := hv
  intro j v hj
  obtain ⟨hqlt, _⟩ := List.getElem?_eq_some_iff.1 hq
  obtain ⟨hjlt, _⟩ := List.getElem?_eq_some_iff.1 hj
  have hrl := (hr row (List.mem_of_getElem? hq)).1
  rcases h with h | ⟨b', off', cs, E, he, hb, hz, hcs⟩
  · omega
  · simp only [Option.some.injEq, Addr.mk.injEq] at he
    obtain ⟨rfl, rfl, _⟩ := he
    have hle : (q + 1) * k ≤ m * k := Nat.mul_le_mul_right _ (by omega)
    have hq1 : (q + 1) * k = q * k + k := Nat.succ_mul _ _
    rw [Nat.add_assoc]
    refine cell_at hb ?_
    rw [hcs (q * k + j) (by omega)]
    exact flat_at (fun r hm => (hr r hm).1) hq hj

/-! ### s[:n:n] -/
theorem run_clip {x y z : Operand} {t e : TypeId} {a : Option Addr} {m c hi : Nat} {k k2 : IntKind} {i j : Int} (ht : P.underlying t = some (.slice e)) (hsz : (P.info? e).map (·.size) = some 1) (hx : ev ρ x = .slice a m c) (hy : ev ρ y = .int k i) (hz : ev ρ z = .int k2 j) (hi' : i = hi) (hj : j = hi) (h2 : hi ≤ c) (ha : hi = 0 ∨ ∃ b off, a = some ⟨b, off, none⟩) :
    (execOp (ev ρ) ⟨dst, .slice t x none (some y) (some z), ty, pos, aft, none⟩).run P w = .ok (.value (.slice a hi hi)) w := by
  obtain ⟨inf, hinf, hs⟩ := Option.map_eq_some_iff.1 hsz
  have h0 : (if hi = 0 then a else a.map (·.add (0 * 1))) = a := by
    rcases ha with h | ⟨b, off, rfl⟩
    · rw [if_pos h]
    · split
      · rfl
      · simp [Addr.add_lit]
  simp only [execOp, Option.map_some, Option.map_none, hx, hy, hz, Instr.sliceAt, Sem.run_bind, run_underlying ht, Result.andThen_ok, Instr.slice, Instr.sliceBounds, Option.isSome_some, Option.isSome_none, if_true, Bool.false_eq_true, if_false, run_bound hj h2, run_bound hi' (Nat.le_refl _), Sem.run_pure, sizeOf, typeInfo, program, Sem.run, hinf, hs, h0, Nat.sub_zero]
/-- A slice of one's own without its spare room. -/
theorem Mem.clip (hs : Mem g w L) (i : Nat) {a : Option Addr} {m c : Nat} {l : List Value} (hi : L[i]? = some (own (.slice a m c) l)) : Mem g w (L.set i (own (.slice a m m) l)) := by
  obtain ⟨F, ⟨⟨a', n', c', hv, hn, hc, ha, h⟩, g2⟩, g3⟩ := hs.turn hi
  simp only [Value.slice.injEq] at hv
  obtain ⟨rfl, rfl, rfl⟩ := hv
  refine g3 w _ F ⟨⟨a, m, m, rfl, hn, Nat.le_refl _, ⟨fun e => by have := ha.1 e; omega, fun b hb => ha.2 b (by cases a <;> exact hb)⟩, ?_⟩, fun x => by rw [g2 x]; cases a <;> rfl⟩ (fun _ h => .inl h) (Keeps.refl _ _)
  rcases h with h | ⟨b, off, cs, E, rfl, hb, hz, hcs⟩
  · exact .inl (by omega)
  · exact .inr ⟨b, off, cs, E, rfl, hb, by omega, hcs⟩
theorem Mem.ownForm (hs : Mem g w L) (i : Nat) {a : Option Addr} {m c : Nat} {l : List Value} (hi : L[i]? = some (own (.slice a m c) l)) : m = l.length ∧ m ≤ c ∧ (m = 0 ∨ ∃ b off, a = some ⟨b, off, none⟩) := by
  obtain ⟨F, ⟨⟨a', n', c', hv, hn, hc, ha, h⟩, g2⟩⟩ := hs.read hi
  simp only [Value.slice.injEq] at hv
  obtain ⟨rfl, rfl, rfl⟩ := hv
  refine ⟨hn, hc, ?_⟩
  rcases h with h | ⟨b, off, cs, E, rfl, hb, hz, hcs⟩
  · exact .inl (by omega)
  · exact .inr ⟨b, off, rfl⟩
end Go.Proofs.YtmnfehbnjgmgjaaDoor
