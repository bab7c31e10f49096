/- Laws of the operations on memory, over any program: append onto a slice of one's own from whatever reads as a list; maps by their entries in order. -/
import Derived.Test.YtmnfehbnjgmgjaaDoorBase
import Derived.Great.BuildSlice
namespace Go.Proofs.YtmnfehbnjgmgjaaDoor
set_option linter.all false
open Go.RowKit
variable {P : Program}

/-- A slice of one's own: it may be written, up to its capacity. -/
def ownV (w : World) (v : Value) (l : List Value) : Prop :=
  ∃ a n c, v = .slice a n c ∧ n = l.length ∧ n ≤ c ∧ ((a = none → c = 0) ∧ ∀ b, blk v = some b → b < w.heap.size) ∧
    (c = 0 ∨ ∃ b off cs E, a = some ⟨b, off, none⟩ ∧ w.heap[b]? = some (.cells cs E (0, 0)) ∧ off + c ≤ cs.size ∧ ∀ i, i < l.length → cs[off + i]? = l[i]?)
theorem ownV.seq {w : World} {v : Value} {l : List Value} (h : ownV w v l) : seqV w v l := by
  obtain ⟨a, n, c, rfl, hn, hc, ha, h⟩ := h
  refine ⟨a, n, c, rfl, hn, hc, ha.1, ?_⟩
  rcases h with h | ⟨b, off, cs, E, rfl, hb, r⟩
  · exact .inl h
  · exact .inr ⟨b, off, cs, E, (0, 0), rfl, hb, r⟩
theorem ownV.lt {w : World} {v : Value} {l : List Value} (h : ownV w v l) : ∀ b, blk v = some b → b < w.heap.size := by
  obtain ⟨a, n, c, rfl, hn, hc, ha, h⟩ := h
  exact ha.2
theorem ownV.nil (w : World) : ownV w (.slice none 0 0) [] := ⟨none, 0, 0, rfl, rfl, Nat.le_refl _, ⟨fun _ => rfl, fun _ h => by cases h⟩, .inl rfl⟩
theorem ownV.keep {F : Nat → Prop} {w w' : World} {v : Value} {l : List Value} (h : ownV w v l) (k : Keeps F w w') (hF : ∀ b, blk v = some b → ¬ F b) : ownV w' v l := by
  obtain ⟨a, n, c, rfl, hn, hc, ha, h⟩ := h
  refine ⟨a, n, c, rfl, hn, hc, ⟨ha.1, fun b hb => Nat.lt_of_lt_of_le (ha.2 b hb) k.size⟩, ?_⟩
  rcases h with h | ⟨b, off, cs, E, rfl, hb, r⟩
  · exact .inl h
  · exact .inr ⟨b, off, cs, E, rfl, k.get hb (hF b rfl), r⟩

theorem heap_setCells {b : Nat} {E : TypeId} : ∀ (vs : List Value) (o : Nat) (w : World) (cs : Array Value), w.heap[b]? = some (.cells cs E (0, 0)) → o + vs.length ≤ cs.size →
    ∃ cs' : Array Value, (w.setCells b o vs).heap[b]? = some (.cells cs' E (0, 0)) ∧ cs'.size = cs.size ∧ (∀ j, j < o → cs'[j]? = cs[j]?) ∧ (∀ j, j < vs.length → cs'[o + j]? = vs[j]?) ∧ (∀ j, o + vs.length ≤ j → cs'[j]? = cs[j]?) ∧ Keeps (· = b) w (w.setCells b o vs) ∧ (w.setCells b o vs).heap.size = w.heap.size
  | [], o, w, cs, h, _ => ⟨cs, h, rfl, fun _ _ => rfl, fun _ hj => absurd hj (by simp), fun _ _ => rfl, Keeps.refl _ _, rfl⟩
  | v :: vs, o, w, cs, h, hs => by
    have h1 := heap_setCell_same (i := o) (v := v) h
    obtain ⟨cs', h2, hsz, hlo, hmid, hhi, hk, hz⟩ := heap_setCells vs (o + 1) (w.setCell ⟨b, o, none⟩ v) (cs.setIfInBounds o v) h1 (by simp at hs ⊢; omega)
    refine ⟨cs', h2, by simpa using hsz, fun j hj => ?_, fun j hj => ?_, fun j hj => ?_, ((Keeps.refl (· = b) w).setCell ⟨b, o, none⟩ v (fun _ => rfl)).trans hk, by rw [World.setCells, hz]; simp⟩
    · rw [hlo j (by omega), Array.getElem?_setIfInBounds_ne (by omega)]
    · cases j with
      | zero => rw [Nat.add_zero, hlo o (by omega), Array.getElem?_setIfInBounds_self_of_lt (by simp at hs; omega)]; rfl
      | succ j => rw [show o + (j + 1) = o + 1 + j by omega, hmid j (by simpa using hj)]; rfl
    · rw [hhi j (by simp at hj ⊢; omega), Array.getElem?_setIfInBounds_ne (by simp at hj; omega)]

/-- What a slice yields to append. -/
theorem src_of_seq {w : World} {v : Value} {l : List Value} {tx e : TypeId} (hk : P.underlying tx = some (.slice e)) (h : seqV w v l) (h1 : ∀ u ∈ l, u.oneCell' = true) : Src P 1 tx v l.length l w := by
  obtain ⟨a, n, c, rfl, hn, hc, ha, h⟩ := h
  subst hn
  cases a with
  | none =>
    have hc0 := ha rfl
    subst hc0
    have : l = [] := List.eq_nil_of_length_eq_zero (by omega)
    subst this
    exact Src.ofNil w hk 0
  | some a =>
    refine Src.ofSlice w hk a l.length c l (by simp) (fun j u hj => ?_) h1
    have hjl := (List.getElem?_eq_some_iff.1 hj).1
    rcases h with h | ⟨b, off, cs, E, fz, ha, hb, _, hcs⟩
    · omega
    · obtain rfl := Option.some.inj ha
      rw [Addr.add_lit]
      exact cell_at hb (by rw [hcs j hjl, hj])

theorem firstCells_own {w : World} {a : Option Addr} {n c : Nat} {l : List Value} (h : ownV w (.slice a n c) l) (w' : World) (hw : ∀ x, w'.cell? x = w.cell? x) : (Builtin.firstCells 1 n (.slice a n c)).run P w' = .ok l.toArray w' := by
  have h0 := h.seq
  clear h
  obtain ⟨hn, hc, ha, h⟩ := h0.open
  clear h0
  subst hn
  cases a with
  | none =>
    have hc0 := ha rfl
    have : l = [] := List.eq_nil_of_length_eq_zero (by omega)
    subst this
    exact run_firstCells_none w' 1 0 0 c
  | some a =>
    refine run_firstCells_some w' 1 l.length a l.length c l (by simp) (fun j u hj => ?_)
    have hjl := (List.getElem?_eq_some_iff.1 hj).1
    rcases h with h | ⟨b, off, cs, E, fz, ha, hb, _, hcs⟩
    · omega
    · obtain rfl := Option.some.inj ha
      rw [Addr.add_lit, hw]
      exact cell_at hb (by rw [hcs j hjl, hj])

/-- append onto a slice of one's own, of whatever reads as a list: elements of one cell. -/
theorem run_append_any {w : World} {t tx ty e : TypeId} {i : TypeInfo} {z : Value} (ht : P.underlying t = some (.slice e)) (hi : P.info? e = some i) (hz : i.zero = some z) (hs : i.size = 1) (hzc : z.cells.size = 1)
    {v x : Value} {xs news : List Value} (hown : ownV w v xs) (hsrc : Src P 1 tx x news.length news w) (hb : (xs.length + news.length) * i.bytes ≤ 140737488355328) (hlen : xs.length + news.length ≤ 9223372036854775807) :
    ∃ v' w', (Builtin.append_ #[t, tx] ty #[v, x]).run P w = .ok v' w' ∧ ownV w' v' (xs ++ news) ∧ Keeps (fun k => blk v = some k) w w' ∧ (v' = v ∧ news = [] ∧ w' = w ∨ blk v' = blk v ∧ (blk v).isSome ∨ blk v' = some w.heap.size) ∧ (v' = .slice none 0 0 → xs ++ news = []) := by
  obtain ⟨a, n, c, rfl, hn, hc, ha, h⟩ := hown
  subst hn
  have hsrc' : Src P i.size tx x news.length news w := by rw [hs]; exact hsrc
  by_cases hroom : xs.length + news.length ≤ c
  · rcases h with h | ⟨b, off, cs, E, rfl, hb', hcap, hcs⟩
    · have hx : xs = [] := List.eq_nil_of_length_eq_zero (by omega)
      have hne : news = [] := List.eq_nil_of_length_eq_zero (by omega)
      subst hx hne h
      refine ⟨.slice a 0 0, w, ?_, ⟨a, 0, 0, rfl, rfl, Nat.le_refl _, ⟨fun _ => rfl, ha.2⟩, .inl rfl⟩, Keeps.refl _ _, .inl ⟨rfl, rfl, rfl⟩, fun _ => rfl⟩
      have hc0 := hsrc.cells
      have hl0 := hsrc.len
      simp only [List.length_nil] at hc0 hl0
      cases a with
      | none => rcases hsrc.kind with ⟨e', hk⟩ | hk <;> simp [Builtin.append_, run_underlying ht, run_underlying hk, sizeOf, typeInfo, hi, hl0, hs, hc0]
      | some a =>
        rcases hsrc.kind with ⟨e', hk⟩ | hk <;> simp [Builtin.append_, run_underlying ht, run_underlying hk, sizeOf, typeInfo, hi, hl0, hs, hc0, storeCells]
    · obtain ⟨cs', h2, hsz, hlo, hmid, _, hk, hz⟩ := heap_setCells news (off + xs.length) w cs hb' (by omega)
      have hr := run_append_room_src (P := P) w t tx ty e i ht hi b off xs.length c x news.length news hsrc' hroom
        (fun j hj => by rw [hs, Nat.mul_one, cell_at hb' (Array.getElem?_eq_getElem (by omega))]; rfl) (fun j _ => free_at hb')
      rw [hs, Nat.mul_one] at hr
      refine ⟨_, _, hr, ⟨_, _, _, rfl, by simp, hroom, ⟨(fun h => by cases h), fun b' hb' => by rw [hz]; exact ha.2 b' hb'⟩, .inr ⟨b, off, cs', E, rfl, h2, by omega, fun j hj => ?_⟩⟩, hk.mono (fun k _ hk => by simp [blk, hk]), .inr (.inl ⟨rfl, rfl⟩), fun h => by simp at h⟩
      by_cases hj' : j < xs.length
      · rw [hlo (off + j) (by omega), hcs j hj', List.getElem?_append_left hj']
      · have := hmid (j - xs.length) (by simp at hj; omega)
        rw [show off + xs.length + (j - xs.length) = off + j by omega] at this
        rw [this, List.getElem?_append_right (by omega)]
  · have hr := run_append_grow_src (P := P) w t tx ty e i z ht hi hz a xs.length c xs (by rw [hs]; exact firstCells_own ⟨a, _, c, rfl, rfl, hc, ha, h⟩ _ (fun _ => rfl)) x news.length news hsrc' (by omega) (by omega) (growslice_fits (by omega) hb)
    have hge := grownCap_ge w (xs.length + news.length) c e
    refine ⟨_, _, hr, ⟨_, _, _, rfl, by simp, hge, ⟨(fun h => by cases h), fun b' hb' => by cases hb'; simp⟩, .inr ⟨_, 0, _, e, rfl, heap_alloc_new _ _, ?_, fun j hj => ?_⟩⟩, ((Keeps.refl _ w).drew).alloc _, .inr (.inr rfl), fun h => by simp at h⟩
    · simp only [Array.size_append, List.size_toArray, List.length_append, size_zeroCells, hzc]; omega
    · rw [Nat.zero_add, Array.getElem?_append_left (by simpa using hj), List.getElem?_toArray]

/-- At an operation 'append' whose guard is none. -/
theorem wpList_append_any {ops : Array Oper} {rest : List Oper} {o : Oper} {a : Act} {w : World} {Q : Exit → Act → World → Prop} (hg : o.guard = none) (s x : Operand) (t tx : TypeId)
    (ho : o.op = .call { callee := .builtin .append, args := #[s, x], argTypes := #[t, tx] })
    {e : TypeId} {i : TypeInfo} {z : Value} (ht : P.underlying t = some (.slice e)) (hi : P.info? e = some i) (hz : i.zero = some z) (hs : i.size = 1) (hzc : z.cells.size = 1)
    {v xv : Value} {xs news : List Value} (hv : a.eval s = v) (hx : a.eval x = xv) (hown : ownV w v xs) (hsrc : Src P 1 tx xv news.length news w) (hb : (xs.length + news.length) * i.bytes ≤ 140737488355328) (hlen : xs.length + news.length ≤ 9223372036854775807)
    (hK : ∀ v' w', ownV w' v' (xs ++ news) → Keeps (fun k => blk v = some k) w w' → (v' = v ∧ news = [] ∧ w' = w ∨ blk v' = blk v ∧ (blk v).isSome ∨ blk v' = some w.heap.size) → (v' = .slice none 0 0 → xs ++ news = []) → wpList P ops Q rest (a.put o.dst v') w') :
    wpList P ops Q (o :: rest) a w := by
  obtain ⟨v', w', hrun, h1, h2, h3, h4⟩ := run_append_any (ty := o.type) ht hi hz hs hzc hown hsrc hb hlen
  refine wpList_run hg (v := v') (w' := w') ?_ (hK v' w' h1 h2 h3 h4)
  obtain ⟨dst, op, type, pos, after, guard⟩ := o
  dsimp only at ho hrun
  subst ho hv hx
  rw [BigFrame.execOp_builtin, BigFrame.builtin_append]
  have hm : (#[s, x] : Array Operand).map a.eval = #[a.eval s, a.eval x] := by simp
  rw [hm]
  simp only [Sem.run_bind, hrun, Result.andThen, Sem.run_pure]

/-- A slice literal, every place written, elements of one cell. -/
theorem wpList_buildSeq {ops : Array Oper} {rest : List Oper} {o : Oper} {a : Act} {w : World} {Q : Exit → Act → World → Prop} (hg : o.guard = none) (t : TypeId) (len : Nat) (parts : Array (Nat × Operand)) (ho : o.op = .buildSlice t len parts)
    {e : TypeId} {i : TypeInfo} {z : Value} (hu : P.underlying t = some (.slice e)) (hi : P.info? e = some i) (hz : i.zero = some z) (hs : i.size = 1) (vs : List Value)
    (hparts : (parts.toList.map fun p => (p.1, a.eval p.2)) = (vs.zipIdx 0).map fun x => (x.2, x.1)) (h1 : ∀ u ∈ vs, u.cells = #[u]) (hlen : len = vs.length) (hpos : 0 < len) (hsmall : len ≤ 16777216)
    (h : wpList P ops Q rest (a.put o.dst (.slice (some ⟨w.heap.size, 0, none⟩) len len)) (w.alloc (.cells vs.toArray e))) : wpList P ops Q (o :: rest) a w := by
  refine wpList_buildSlice hg t e len parts ho _ i z hu hi hz (by rw [hs]; omega) (by rw [hs]; omega) ?_ h
  rw [Array.toList_map, show (fun (x : Nat × Operand) => match x with | (i, x) => (i, a.eval x)) = (fun p => (p.1, a.eval p.2)) from rfl, hparts, hs]
  exact Great.fill_flat _ _ h1 (by simp [hlen])

/-- A whole struct is stored into a block of its size. -/
theorem wpList_storeRow {ops : Array Oper} {rest : List Oper} {o : Oper} {a : Act} {w : World} {Q : Exit → Act → World → Prop} (hgd : o.guard = none) (ty : TypeId) (x y : Operand) (ho : o.op = .store ty x y)
    (g : Nat) (cells : Array Value) (hx : a.eval x = .pointer (some ⟨g, 0, none⟩)) (hy : a.eval y = .agg cells)
    {t : TypeId} {old : Array Value} (hg : w.heap[g]? = some (.cells old t (0, 0))) (hi : (P.info? ty).map (·.size) = some cells.size)
    (hold : old.size = cells.size) (h1 : cells.all (·.oneCell') = true)
    (h : ∀ w' : World, w'.heap[g]? = some (.cells cells t (0, 0)) → Keeps (· = g) w w' → w'.heap.size = w.heap.size → wpList P ops Q rest (a.put o.dst undef) w') : wpList P ops Q (o :: rest) a w :=
  wpList_store_row hgd ty x y ho g cells hx hy t old hg hi hold h1
    (h _ (setRow_heap w g old cells t (0, 0) hg) ⟨rfl, rfl, rfl, by simp [World.setRow], fun k _ hk => setRow_other w g k cells hk⟩ (by simp [World.setRow]))
theorem run_loadVar_row {w : World} {T : TypeId} {b : Nat} {vs : Array Value} {E : TypeId} {fz : Nat × Nat} (hagg : (isAgg T).run P w = .ok true w) (hi : (P.info? T).map (·.size) = some vs.size) (hb : w.heap[b]? = some (.cells vs E fz)) :
    (loadVar T ⟨b, 0, none⟩).run P w = .ok (.agg vs) w := by
  obtain ⟨i, hi, hs⟩ := Option.map_eq_some_iff.1 hi
  have hl : (loadCells ⟨b, 0, none⟩ vs.size).run P w = .ok vs w := by
    have := run_loadCells_list (P := P) w ⟨b, 0, none⟩ vs.toList (fun j v hj => by rw [Addr.add_lit, Nat.zero_add]; exact cell_at hb (by simpa using hj))
    simpa using this
  simp [loadVar, hagg, sizeOf, typeInfo, hi, hs, hl, Sem.run_bind, Result.andThen]
theorem results_row {fn : Func} {t : Tmp} {T : TypeId} (h : fn.results = #[.cell t T]) {tmps : Array Value} {w : World} {b : Nat} {vs : Array Value} {E : TypeId} {fz : Nat × Nat} (hp : tmps.getD t undef = .pointer (some ⟨b, 0, none⟩))
    (hagg : (isAgg T).run P w = .ok true w) (hi : (P.info? T).map (·.size) = some vs.size) (hb : w.heap[b]? = some (.cells vs E fz)) : (results fn tmps).run P w = .ok (.agg vs) w := by
  rw [Array.getD_eq_getD_getElem?] at hp
  simp [results, h, hp, asAddr, run_loadVar_row hagg hi hb]
/-- One cell is stored: the world behind it is only known by its blocks. -/
theorem wpList_storeCell {ops : Array Oper} {rest : List Oper} {o : Oper} {a : Act} {w : World} {Q : Exit → Act → World → Prop} (hgd : o.guard = none) (ty : TypeId) (x y : Operand) (ho : o.op = .store ty x y)
    (b i : Nat) (v : Value) (hx : a.eval x = .pointer (some ⟨b, i, none⟩)) (hy : a.eval y = v)
    {t : TypeId} {cs : Array Value} (hg : w.heap[b]? = some (.cells cs t (0, 0))) (hi : (P.info? ty).map (·.size) = some 1) (hlt : i < cs.size) (h1 : v.oneCell' = true)
    (h : ∀ w' : World, w'.heap[b]? = some (.cells (cs.setIfInBounds i v) t (0, 0)) → Keeps (· = b) w w' → w'.heap.size = w.heap.size → wpList P ops Q rest (a.put o.dst undef) w') : wpList P ops Q (o :: rest) a w := by
  obtain ⟨inf, hinf, hs⟩ := Option.map_eq_some_iff.1 hi
  have hcell : w.cell? ⟨b, i, none⟩ = some cs[i] := cell_at hg (Array.getElem?_eq_getElem hlt)
  have hfree : w.frozen? ⟨b, i, none⟩ = false := free_at hg
  refine wpList_skips hgd (w' := w.setCell ⟨b, i, none⟩ v) ?_ (h _ (heap_setCell_same hg) ((Keeps.refl _ w).setCell _ _ fun _ => rfl) (by simp))
  unfold execOp
  simp only [ho, hx, hy]
  have hst : (storeVar ty ⟨b, i, none⟩ v).run P w = .ok () (w.setCell ⟨b, i, none⟩ v) := by
    cases v <;> first
      | (simp [Value.oneCell'] at h1; done)
      | simp [storeVar, sizeOf, typeInfo, hinf, hs, Value.cells, storeCells, store, Sem.run, hcell, hfree, Addr.add]
  simp [Instr.storeAt, hst, Instr.sureAddr]
/-- A function value without parameters is called, by what is known of its call. -/
theorem wpList_callValue {ops : Array Oper} {rest : List Oper} {o : Oper} {a : Act} {w : World} {Q : Exit → Act → World → Prop} (hgd : o.guard = none) (x : Operand) (ats : Array TypeId) (ho : o.op = .call { callee := .value x, args := #[], argTypes := ats })
    {f : FuncId} {cap : Array Value} (hx : a.eval x = .func (.func f) #[] cap) (hf : ∀ w, (callFunc f cap).run P w = .ok (.enter f cap) w)
    {S : Value → World → Prop} (hc : Calls P f cap w fun e w2 => ∃ v, e = .returned v ∧ S v w2) (h : ∀ v w2, S v w2 → wpList P ops Q rest (a.put o.dst v) w2) : wpList P ops Q (o :: rest) a w := by
  refine wpList_plain hgd fun K hK => ?_
  have hr : (execOp a.eval o).run P w = .ok (.enter f cap) w := by
    unfold execOp
    simp [ho, resolve, hx, Deferred.ofValue, invoke, hf]
  unfold Oper.wp
  rw [hr, Oper.upon_enter]
  refine hc.mono ?_
  rintro e w2 ⟨v, rfl, hs⟩
  exact hK _ _ (h v w2 hs)
end Go.Proofs.YtmnfehbnjgmgjaaDoor
