/- The operations on memory, by chunks; calls. -/
import Derived.Test.YtmnfehbnjgmgjaaDoorO
import Derived.Test.YtmnfehbnjgmgjaaDoorMap
import Derived.Lib.SlBytesConst
namespace Go.Proofs.YtmnfehbnjgmgjaaDoor
set_option linter.all false
open Go.RowKit
variable {P : Program} {n : Nat} {ops : Array Oper} {rest : List Oper} {K : Env → World → Prop} {ρ : Env} {g w : World} {L : List HP} {dst : Option Tmp} {ty : TypeId} {pos : String} {aft : Array Edge}

theorem Mem.cellAt (hs : Mem g w L) (i : Nat) {b : Nat} {cs : List Value} {T : TypeId} (hi : L[i]? = some (cells b cs T)) {o : Nat} {v : Value} (hc : cs[o]? = some v) : w.cell? ⟨b, o, none⟩ = some v := by
  obtain ⟨F, h1, _⟩ := hs.read hi
  exact cell_at h1 (by simpa using hc)
/-- A whole struct is read. -/
theorem run_loadRow (hs : Mem g w L) (i : Nat) {x : Operand} {t : TypeId} {b : Nat} {cs : List Value} {T : TypeId} (hi : L[i]? = some (cells b cs T)) {fs : Array Field} (ht : P.underlying t = some (.struct fs)) (hsz : (P.info? t).map (·.size) = some cs.length) (hx : ev ρ x = .pointer (some ⟨b, 0, none⟩)) :
    (execOp (ev ρ) ⟨dst, .load t x, ty, pos, aft, none⟩).run P w = .ok (.value (.agg cs.toArray)) w := by
  obtain ⟨F, h1, _⟩ := hs.read hi
  have hagg : (isAgg t).run P w = .ok true w := by simp [isAgg, run_underlying ht]
  have := run_loadVar_row (P := P) (T := t) (vs := cs.toArray) hagg (by simpa using hsz) h1
  simp [execOp, Instr.loadAt, hx, Instr.sureAddr, this]
/-- A cell is written. -/
theorem lw_store (hs : Mem g w L) (i : Nat) {x y : Operand} {t : TypeId} {b o : Nat} {cs : List Value} {T : TypeId} {v : Value} (hi : L[i]? = some (cells b cs T)) (hsz : (P.info? t).map (·.size) = some 1) (hx : ev ρ x = .pointer (some ⟨b, o, none⟩)) (hy : ev ρ y = v) (ho : Nat.blt o cs.length = true) (h1 : v.oneCell' = true)
    (h : ∀ w', Mem g w' (L.set i (cells b (cs.set o v) T)) → lw P n ops rest K ρ w') : lw P n ops (⟨none, .store t x y, ty, pos, aft, none⟩ :: rest) K ρ w := by
  obtain ⟨F, ⟨g1, g2⟩, g3⟩ := hs.turn hi
  have ho' : o < cs.length := by simpa using ho
  have hcell : w.cell? ⟨b, o, none⟩ = some cs[o] := cell_at g1 (by simp [ho'])
  have hfree : w.frozen? ⟨b, o, none⟩ = false := free_at g1
  obtain ⟨inf, hinf, hsz⟩ := Option.map_eq_some_iff.1 hsz
  have hst : (storeVar t ⟨b, o, none⟩ v).run P w = .ok () (w.setCell ⟨b, o, none⟩ v) := by
    cases v <;> first
      | (simp [Value.oneCell'] at h1; done)
      | simp [storeVar, sizeOf, typeInfo, hinf, hsz, Value.cells, storeCells, store, Sem.run, hcell, hfree, Addr.add]
  refine lw_skip rfl (w' := w.setCell ⟨b, o, none⟩ v) ?_ (h _ (g3 _ (cells b (cs.set o v) T) F ⟨?_, g2⟩ (fun b hb => .inl hb) ((Keeps.refl _ _).setCell _ _ fun _ => (g2 b).2 rfl)))
  · simp [execOp, hx, hy, Instr.storeAt, Instr.sureAddr, hst]
  · have := heap_setCell_same (i := o) (v := v) g1
    rw [this]
    simp
/-- A whole struct is written. -/
theorem lw_storeRow (hs : Mem g w L) (i : Nat) {x y : Operand} {t : TypeId} {b : Nat} {cs vs : List Value} {T : TypeId} (hi : L[i]? = some (cells b cs T)) (hx : ev ρ x = .pointer (some ⟨b, 0, none⟩)) (hy : ev ρ y = .agg vs.toArray) (hsz : (P.info? t).map (·.size) = some vs.length) (hl : cs.length = vs.length) (h1 : vs.all (·.oneCell') = true)
    (h : ∀ w', Mem g w' (L.set i (cells b vs T)) → lw P n ops rest K ρ w') : lw P n ops (⟨none, .store t x y, ty, pos, aft, none⟩ :: rest) K ρ w := fun a ha => by
  obtain ⟨F, ⟨g1, g2⟩, g3⟩ := hs.turn hi
  refine wpList_storeRow rfl t x y rfl b vs.toArray (by rw [ha.eval]; exact hx) (by rw [ha.eval]; exact hy) g1 (by simpa using hsz) (by simpa using hl) (by simpa using h1) fun w' k1 k2 _ => ?_
  exact h w' (g3 w' (cells b vs T) F ⟨k1, g2⟩ (fun b hb => .inl hb) (k2.mono fun x _ e => (g2 x).2 e)) _ ha
theorem Mem.new (hs : Mem g w L) (cs : List Value) (T : TypeId) : Mem g (w.alloc (.cells cs.toArray T)) (cells w.heap.size cs T :: L) :=
  hs.add (F' := fun x => x = w.heap.size) ⟨World.alloc_heap_new w _, fun _ => Iff.rfl⟩ (fun _ h => Nat.le_of_eq h.symm) ((Keeps.refl _ _).alloc _)
/-- A new variable with a value. -/
theorem lw_box (hs : Mem g w L) (hd : okd n dst = true) {x : Operand} {t : TypeId} {v : Value} (hx : ev ρ x = v) (h : ∀ b w', Mem g w' (cells b v.cells.toList t :: L) → lw P n ops rest K (updo ρ dst (.pointer (some ⟨b, 0, none⟩))) w') :
    lw P n ops (⟨dst, .box t x, ty, pos, aft, none⟩ :: rest) K ρ w := by
  refine lw_val hd (v := .pointer (some ⟨w.heap.size, 0, none⟩)) (w' := w.alloc (.cells v.cells t)) ?_ (h _ _ ?_)
  · subst hx; rfl
  · simpa using hs.new v.cells.toList t
theorem lw_alloc (hs : Mem g w L) (hd : okd n dst = true) {t : TypeId} {z : Value} (hz : (P.info? t).map (·.zero) = some (some z)) (h : ∀ b w', Mem g w' (cells b z.cells.toList t :: L) → lw P n ops rest K (updo ρ dst (.pointer (some ⟨b, 0, none⟩))) w') :
    lw P n ops (⟨dst, .alloc t, ty, pos, aft, none⟩ :: rest) K ρ w := by
  obtain ⟨inf, hinf, hz⟩ := Option.map_eq_some_iff.1 hz
  refine lw_val hd (v := .pointer (some ⟨w.heap.size, 0, none⟩)) (w' := w.alloc (.cells z.cells t)) ?_ (h _ _ ?_)
  · simp [execOp, Instr.alloc, zeroValue, typeInfo, hinf, hz, newVar, newRow]
  · simpa using hs.new z.cells.toList t
theorem run_build {t : TypeId} {ps : List (Nat × Operand)} {fs : Array Field} {z : Value} {places : Array (Nat × Nat)} {cs : List Value} (ht : P.underlying t = some (.struct fs)) (hz : (P.info? t).map (·.zero) = some (some z))
    (hp : ∀ w, (fs.mapM (m := Sem) fun f => do pure (f.offset, ← sizeOf f.type)).run P w = .ok places w) (hf : Instr.fill (places[·]?) z.cells (ps.map fun p => (p.1, ev ρ p.2)) = some cs.toArray) :
    (execOp (ev ρ) ⟨dst, .build t ps.toArray, ty, pos, aft, none⟩).run P w = .ok (.value (.agg cs.toArray)) w := by
  obtain ⟨inf, hinf, hz⟩ := Option.map_eq_some_iff.1 hz
  have hl : (ps.toArray.map fun (p : Nat × Operand) => (p.1, ev ρ p.2)).toList = ps.map fun p => (p.1, ev ρ p.2) := by simp
  have e : (fun (x : Nat × Operand) => match x with | (i, x) => (i, ev ρ x)) = fun p => (p.1, ev ρ p.2) := by funext ⟨_, _⟩; rfl
  have hzv : (zeroValue t).run P w = .ok z w := by simp [zeroValue, typeInfo, hinf, hz]
  simp only [execOp, e, Instr.build, Sem.run_bind, hzv, Result.andThen_ok, run_underlying ht, hp, hl, hf, Sem.run_pure]
theorem fill_congr {f g : Nat → Option (Nat × Nat)} : ∀ (l : List (Nat × Value)) (cells : Array Value), (∀ p ∈ l, f p.1 = g p.1) → Instr.fill f cells l = Instr.fill g cells l
  | [], _, _ => rfl
  | (i, v) :: l, cells, h => by
    have h1 := h (i, v) (.head _)
    simp only [Instr.fill]
    rw [show f i = g i from h1]
    cases g i with
    | none => rfl
    | some p => simp only []; split
                · rfl
                · exact fill_congr l _ fun p hp => h p (.tail _ hp)
/-- A struct literal, every field given, of one cell each. -/
theorem run_buildF {t : TypeId} {ps : List (Nat × Operand)} {fs : Array Field} {z : Value} {places : Array (Nat × Nat)} (vs : List Value) (ht : P.underlying t = some (.struct fs)) (hz : (P.info? t).map (·.zero) = some (some z))
    (hp : ∀ w, (fs.mapM (m := Sem) fun f => do pure (f.offset, ← sizeOf f.type)).run P w = .ok places w) (hps : (ps.map fun p => (p.1, ev ρ p.2)) = (vs.zipIdx 0).map fun x => (x.2, x.1)) (h1 : ∀ u ∈ vs, u.cells = #[u]) (hn : vs.length = z.cells.size) (hpl : ((List.range vs.length).all fun i => places[i]? == some (i, 1)) = true) :
    (execOp (ev ρ) ⟨dst, .build t ps.toArray, ty, pos, aft, none⟩).run P w = .ok (.value (.agg vs.toArray)) w := by
  refine run_build ht hz hp ?_
  rw [hps, fill_congr (g := fun i => some (i * 1, 1))]
  · exact Great.fill_flat vs _ h1 hn
  · rintro ⟨i, v⟩ hm
    simp only [List.mem_map, Prod.mk.injEq] at hm
    obtain ⟨⟨u, j⟩, hu, rfl, rfl⟩ := hm
    have hj := List.mem_zipIdx hu
    have := List.all_eq_true.1 hpl j (by simp; omega)
    simpa using this
/-- A slice literal: elements of one cell. -/
theorem lw_buildSlice (hs : Mem g w L) (hd : okd n dst = true) {t e : TypeId} {len : Nat} {ps : List (Nat × Operand)} {z : Value} (vs : List Value) (ht : P.underlying t = some (.slice e)) (hsz : (P.info? e).map (fun i => (i.zero, i.size)) = some (some z, 1))
    (hp : (ps.map fun p => (p.1, ev ρ p.2)) = (vs.zipIdx 0).map fun x => (x.2, x.1)) (h1 : ∀ u ∈ vs, u.cells = #[u]) (hlen : len = vs.length) (hpos : Nat.blt 0 len = true) (hsmall : Nat.ble len 16777216 = true)
    (h : ∀ b w', Mem g w' (cells b vs e :: L) → lw P n ops rest K (updo ρ dst (.slice (some ⟨b, 0, none⟩) len len)) w') :
    lw P n ops (⟨dst, .buildSlice t len ps.toArray, ty, pos, aft, none⟩ :: rest) K ρ w := by
  obtain ⟨inf, hinf, hz⟩ := Option.map_eq_some_iff.1 hsz
  simp only [Prod.mk.injEq] at hz
  refine lw_val hd (v := .slice (some ⟨w.heap.size, 0, none⟩) len len) (w' := w.alloc (.cells vs.toArray e)) ?_ (h _ _ (hs.new vs e))
  have hl : (ps.toArray.map fun (p : Nat × Operand) => (p.1, ev ρ p.2)).toList = ps.map fun p => (p.1, ev ρ p.2) := by simp
  have e1 : (fun (x : Nat × Operand) => match x with | (i, x) => (i, ev ρ x)) = fun p => (p.1, ev ρ p.2) := by funext ⟨_, _⟩; rfl
  have hr := run_buildSlice (P := P) w t e len (ps.toArray.map fun (p : Nat × Operand) => (p.1, ev ρ p.2)) vs.toArray inf z ht hinf hz.1 (by rw [hz.2]; have := (show len ≤ 16777216 by simpa using hsmall); omega) (by rw [hz.2]; have := (show 0 < len by simpa using hpos); omega)
    (by rw [hl, hp, hz.2]; exact Great.fill_flat _ _ h1 (by simp [hlen]))
  simp only [execOp, e1, Sem.run_bind, hr, Result.andThen_ok, Sem.run_pure]
/-- []byte of a constant: behind it the bytes are read alone. -/
def rd (v : Value) (l : List Value) : HP where
  ok F w := seqV w v l ∧ (∀ x, blk v = some x → x < w.heap.size) ∧ ∀ x, F x ↔ blk v = some x
  loc := fun {F w w'} ⟨h, hb, hF⟩ k => ⟨h.heap fun b hb => k b ((hF b).2 hb), fun x hx => by
    have h1 := hb x hx
    have h2 := k x ((hF x).2 hx)
    rw [Array.getElem?_eq_getElem h1] at h2
    exact (Array.getElem?_eq_some_iff.1 h2).1, hF⟩
  lt := fun ⟨_, hb, hF⟩ h => hb _ ((hF _).1 h)
theorem Rd.rd {v : Value} {l : List Value} (i : Nat) (hi : L[i]? = some (rd v l)) : Rd g L v l := Ens.of i hi fun _ _ h => h.1
theorem ownV_cells {w : World} {b : Nat} {cs : List Value} {T : TypeId} (h : w.heap[b]? = some (.cells cs.toArray T (0, 0))) {n : Nat} (hn : n = cs.length) : ownV w (.slice (some ⟨b, 0, none⟩) n n) cs := by
  subst hn
  exact ⟨_, _, _, rfl, rfl, Nat.le_refl _, ⟨(fun h => by cases h), (fun x hx => by simp only [blk, Option.some.injEq] at hx; subst hx; exact lt_of_block h)⟩, .inr ⟨b, 0, cs.toArray, T, rfl, h, by simp, fun i hi => by simp⟩⟩
/-- A literal is a slice of one's own. -/
theorem Mem.asOwn (hs : Mem g w L) (i : Nat) {b : Nat} {cs : List Value} {T : TypeId} (hi : L[i]? = some (cells b cs T)) {n : Nat} (hn : n = cs.length) : Mem g w (L.set i (own (.slice (some ⟨b, 0, none⟩) n n) cs)) := by
  obtain ⟨F, ⟨g1, g2⟩, g3⟩ := hs.turn hi
  exact g3 w _ F ⟨ownV_cells g1 hn, fun x => by rw [g2 x]; simp [blk, eq_comm]⟩ (fun _ h => .inl h) (Keeps.refl _ _)
theorem Mem.asRd (hs : Mem g w L) (i : Nat) {b : Nat} {cs : List Value} {T : TypeId} (hi : L[i]? = some (cells b cs T)) {n : Nat} (hn : n = cs.length) : Mem g w (L.set i (rd (.slice (some ⟨b, 0, none⟩) n n) cs)) := by
  obtain ⟨F, ⟨g1, g2⟩, g3⟩ := hs.turn hi
  exact g3 w _ F ⟨(ownV_cells g1 hn).seq, (ownV_cells g1 hn).lt, fun x => by rw [g2 x]; simp [blk, eq_comm]⟩ (fun _ h => .inl h) (Keeps.refl _ _)
theorem Rd.cells {b : Nat} {cs : List Value} {T : TypeId} (i : Nat) (hi : L[i]? = some (cells b cs T)) {n : Nat} (hn : n = cs.length) : Rd g L (.slice (some ⟨b, 0, none⟩) n n) cs := Ens.of i hi fun _ _ h => (ownV_cells h.1 hn).seq
theorem lw_constBytes (hs : Mem g w L) (hd : okd n dst = true) (i : Nat) {x : Operand} {t e : TypeId} {b len : Nat} {cs : List Value} {T : TypeId} (hi : L[i]? = some (cells b cs T)) (hn : len = cs.length) (ht : P.underlying t = some (.slice e)) (he : P.underlying e = some (.int .u8)) (hx : ev ρ x = .slice (some ⟨b, 0, none⟩) len len)
    (h : ∀ w', Mem g w' (L.set i (rd (.slice (some ⟨b, 0, none⟩) len len) cs)) → lw P n ops rest K (updo ρ dst (.slice (some ⟨b, 0, none⟩) len len)) w') :
    lw P n ops (⟨dst, .convert t t x, ty, pos, aft, none⟩ :: rest) K ρ w := by
  obtain ⟨F, ⟨g1, g2⟩, g3⟩ := hs.turn hi
  have hsh : w.shape? b = some (T, cs.length) := by simp [World.shape?, g1]
  have hlt := lt_of_block g1
  have hfr : (w.freeze ⟨b, cs.length, none⟩ 1).heap[b]? = some (.cells cs.toArray T (cs.length, cs.length + 1)) := by
    have h' : w.heap[b] = .cells cs.toArray T (0, 0) := by simpa [Array.getElem?_eq_getElem hlt] using g1
    simp only [World.freeze, Nat.one_ne_zero, if_false]
    rw [Array.getElem?_eq_getElem (by simpa using hlt), Array.getElem_modify_self, h']
    simp
  have hk : Keeps (· = b) w (w.freeze ⟨b, cs.length, none⟩ 1) := by
    refine ⟨rfl, rfl, rfl, by simp [World.freeze], fun k hk hne => ?_⟩
    simp only [World.freeze, Nat.one_ne_zero, if_false]
    rw [Array.getElem?_modify, if_neg (fun e => hne e.symm)]
  refine lw_val hd (v := .slice (some ⟨b, 0, none⟩) len len) (w' := w.freeze ⟨b, cs.length, none⟩ 1) ?_ (h _ (g3 _ _ F ⟨?_, ?_, fun x => by rw [g2 x]; simp [blk, eq_comm]⟩ (fun _ h => .inl h) (hk.mono fun x _ e => (g2 x).2 e)))
  · simp [execOp, convert, run_underlying ht, run_underlying he, hx, markStringish, shape, freeze, Sem.run, hsh]
  · subst hn
    exact ⟨_, _, _, rfl, rfl, Nat.le_refl _, (fun h => by cases h), .inr ⟨b, 0, cs.toArray, T, _, rfl, hfr, by simp, fun i hi => by simp⟩⟩
  · intro x hx
    simp only [blk, Option.some.injEq] at hx
    subst hx
    have := hk.size
    omega

/-! ### maps -/
def mapC {κ : Type} (enc : κ → Value) (m : Nat) (es : List (κ × Value)) : HP where
  ok F w := MapAt w enc m es ∧ ∀ x, F x ↔ x = m
  loc := fun {F w w'} ⟨⟨arr, clock, hb, r⟩, hF⟩ k => ⟨⟨arr, clock, (k m ((hF m).2 rfl)).trans hb, r⟩, hF⟩
  lt := fun ⟨h, hF⟩ hb => by rw [(hF _).1 hb]; exact h.lt
theorem lw_makeMap {κ : Type} (enc : κ → Value) (hs : Mem g w L) (hd : okd n dst = true) {t : TypeId} (h : ∀ m w', Mem g w' (mapC enc m [] :: L) → lw P n ops rest K (updo ρ dst (.map (some m))) w') :
    lw P n ops (⟨dst, .makeMap t none, ty, pos, aft, none⟩ :: rest) K ρ w := by
  refine lw_val hd (v := .map (some w.heap.size)) (w' := w.alloc (.map #[] 0)) ?_ (h _ _ (hs.add (F' := fun x => x = w.heap.size) ⟨MapAt.made w enc, fun _ => Iff.rfl⟩ (fun _ h => Nat.le_of_eq h.symm) ((Keeps.refl _ _).alloc _)))
  simp [execOp, run_makeMap]
section
variable {κ : Type} [DecidableEq κ] {d : TypeDesc} {enc : κ → Value} {T kt et : TypeId} {m : Nat} {es : List (κ × Value)} {x y z : Operand} {k : κ}
omit [DecidableEq κ] in
theorem Mem.mapAt (hs : Mem g w L) (i : Nat) (hi : L[i]? = some (mapC enc m es)) : MapAt w enc m es := by
  obtain ⟨F, h1, _⟩ := hs.read hi
  exact h1
theorem run_lookup (hm : MapAt w enc m es) (kk : KeyKind d enc) (hT : P.underlying T = some (.map kt et)) (hk : P.underlying kt = some d) {v : Value} (hz : (P.info? et).map (·.zero) = some (some v)) (hx : ev ρ x = .map (some m)) (hy : ev ρ y = enc k) {o : Option Value} (ho : aget es k = o) :
    (execOp (ev ρ) ⟨dst, .lookup T x y false, ty, pos, aft, none⟩).run P w = .ok (.value (o.getD v)) w := by
  subst ho
  obtain ⟨inf, hinf, hz⟩ := Option.map_eq_some_iff.1 hz
  have hz' : (zeroValue et).run P w = .ok v w := by simp [zeroValue, typeInfo, hinf, hz]
  simp [execOp, hx, hy, run_lookup_at kk hT hk hm k hz' false]
theorem run_lookupOk (hm : MapAt w enc m es) (kk : KeyKind d enc) (hT : P.underlying T = some (.map kt et)) (hk : P.underlying kt = some d) {v : Value} (hz : (P.info? et).map (·.zero) = some (some v)) (hx : ev ρ x = .map (some m)) (hy : ev ρ y = enc k) {o : Option Value} (ho : aget es k = o) :
    (execOp (ev ρ) ⟨dst, .lookup T x y true, ty, pos, aft, none⟩).run P w = .ok (.value (.tuple #[o.getD v, .bool o.isSome])) w := by
  subst ho
  obtain ⟨inf, hinf, hz⟩ := Option.map_eq_some_iff.1 hz
  have hz' : (zeroValue et).run P w = .ok v w := by simp [zeroValue, typeInfo, hinf, hz]
  simp [execOp, hx, hy, run_lookup_at kk hT hk hm k hz' true]
theorem lw_mapUpdate (hs : Mem g w L) (i : Nat) (hi : L[i]? = some (mapC enc m es)) (kk : KeyKind d enc) (hT : P.underlying T = some (.map kt et)) (hk : P.underlying kt = some d) {v : Value} (hx : ev ρ x = .map (some m)) (hy : ev ρ y = enc k) (hv : ev ρ z = v)
    (h : ∀ w', Mem g w' (L.set i (mapC enc m (aput es k v))) → lw P n ops rest K ρ w') : lw P n ops (⟨none, .mapUpdate T x y z, ty, pos, aft, none⟩ :: rest) K ρ w := by
  obtain ⟨F, ⟨g1, g2⟩, g3⟩ := hs.turn hi
  obtain ⟨o, hr, hm⟩ := run_update_at kk hT hk g1 k v
  refine lw_skip rfl (w' := w.putObj m o) ?_ (h _ (g3 _ _ F ⟨hm, g2⟩ (fun _ h => .inl h) ((Keeps.refl _ _).putObj m o fun _ => (g2 m).2 rfl)))
  simp [execOp, hx, hy, hv, hr]
theorem lw_delete (hs : Mem g w L) (hd : okd n dst = true) (i : Nat) (hi : L[i]? = some (mapC enc m es)) (kk : KeyKind d enc) (hT : P.underlying T = some (.map kt et)) (hk : P.underlying kt = some d) (hx : ev ρ x = .map (some m)) (hy : ev ρ y = enc k)
    (h : ∀ w', Mem g w' (L.set i (mapC enc m (adel es k))) → lw P n ops rest K (updo ρ dst (.tuple #[])) w') : lw P n ops (⟨dst, .call { callee := .builtin .delete, args := #[x, y], argTypes := #[T, kt] }, ty, pos, aft, none⟩ :: rest) K ρ w := by
  obtain ⟨F, ⟨g1, g2⟩, g3⟩ := hs.turn hi
  obtain ⟨o, hr, hm⟩ := run_delete_at kk hT hk g1 k ty
  refine lw_val hd (v := .tuple #[]) (w' := w.putObj m o) ?_ (h _ (g3 _ _ F ⟨hm, g2⟩ (fun _ h => .inl h) ((Keeps.refl _ _).putObj m o fun _ => (g2 m).2 rfl)))
  have hmm : (#[x, y] : Array Operand).map (ev ρ) = #[ev ρ x, ev ρ y] := by simp
  simp only [execOp, resolve, invoke, builtin, hmm, hx, hy, Sem.run_bind, Sem.run_pure, hr, Result.andThen_ok]
end

/-! ### append -/
theorem lw_append (hs : Mem g w L) (hd : okd n dst = true) (i : Nat) {x y : Operand} {t tx e : TypeId} {v xv : Value} {xs news : List Value} (hi : L[i]? = some (own v xs)) {z : Value} {by_ : Nat} (ht : P.underlying t = some (.slice e)) (hsz : (P.info? e).map (fun i => (i.zero, i.size, i.bytes)) = some (some z, 1, by_)) (hzc : z.cells.size = 1)
    (hx : ev ρ x = v) (hy : ev ρ y = xv) (hsrc : Src P 1 tx xv news.length news w) (hb : (xs.length + news.length) * by_ ≤ 140737488355328) (hlen : xs.length + news.length ≤ 9223372036854775807)
    (h : ∀ a c w', Mem g w' (L.set i (own (.slice a (xs.length + news.length) c) (xs ++ news))) → lw P n ops rest K (updo ρ dst (.slice a (xs.length + news.length) c)) w') :
    lw P n ops (⟨dst, .call { callee := .builtin .append, args := #[x, y], argTypes := #[t, tx] }, ty, pos, aft, none⟩ :: rest) K ρ w := by
  obtain ⟨inf, hinf, hz⟩ := Option.map_eq_some_iff.1 hsz
  simp only [Prod.mk.injEq] at hz
  obtain ⟨F, ⟨g1, g2⟩, g3⟩ := hs.turn hi
  obtain ⟨v', w', hrun, k1, k2, k3, _⟩ := run_append_any (ty := ty) ht hinf hz.1 hz.2.1 hzc g1 hsrc (by rw [hz.2.2]; exact hb) hlen
  obtain ⟨a, m, c, rfl, hm, k4⟩ := id k1
  have hm' : m = xs.length + news.length := by simpa using hm
  subst hm'
  refine lw_val hd (v := .slice a (xs.length + news.length) c) (w' := w') ?_ (h a c w' (g3 w' _ (fun x => blk (.slice a (xs.length + news.length) c) = some x) ⟨k1, fun _ => Iff.rfl⟩ (fun b hb => ?_) (k2.mono fun x _ e => (g2 x).2 e)))
  · subst hx hy
    simp only [execOp, resolve, invoke, builtin]
    have hmm : (#[x, y] : Array Operand).map (ev ρ) = #[ev ρ x, ev ρ y] := by simp
    simp only [hmm, Sem.run_bind, Sem.run_pure, hrun, Result.andThen_ok]
  · rcases k3 with ⟨rfl, _, _⟩ | ⟨e, _⟩ | e
    · exact .inl ((g2 b).2 hb)
    · exact .inl ((g2 b).2 (e ▸ hb))
    · rw [e] at hb; cases hb; exact .inr (Nat.le_refl _)

/-! ### calls -/
def Ret (R : Value → World → Prop) (e : Ending) (w' : World) : Prop := ∃ v, e = .returned v ∧ R v w'
theorem run_enter {f : FuncId} {xs : List Operand} {ats : Array TypeId} (hf : ∀ args w, (callFunc f args).run P w = .ok (.enter f args) w) :
    (execOp (ev ρ) ⟨dst, .call { callee := .value (.func f), args := xs.toArray, argTypes := ats }, ty, pos, aft, none⟩).run P w = .ok (.enter f (xs.map (ev ρ)).toArray) w := by
  have hm : (xs.toArray.map (ev ρ)) = (xs.map (ev ρ)).toArray := by simp
  simp only [execOp, resolve, ev, hm, Deferred.ofValue, Sem.run_bind, Sem.run_pure, Result.andThen_ok, invoke]
  simp [hf]
theorem lw_call (hd : okd n dst = true) {f : FuncId} {xs : List Operand} {ats : Array TypeId} {R : Value → World → Prop} (hf : ∀ args w, (callFunc f args).run P w = .ok (.enter f args) w)
    (hc : Calls P f (xs.map (ev ρ)).toArray w (Ret R)) (h : ∀ v w', R v w' → lw P n ops rest K (updo ρ dst v) w') :
    lw P n ops (⟨dst, .call { callee := .value (.func f), args := xs.toArray, argTypes := ats }, ty, pos, aft, none⟩ :: rest) K ρ w :=
  lw_enter hd (run_enter hf) hc h
/-- A function value is called. -/
theorem lw_callv (hd : okd n dst = true) {f : FuncId} {cap : Array Value} {t : Tmp} {xs : List Operand} {ats : Array TypeId} {R : Value → World → Prop} (hf : ∀ args w, (callFunc f args).run P w = .ok (.enter f args) w) (hx : ρ t = .func (.func f) #[] cap)
    (hc : Calls P f ((xs.map (ev ρ)).toArray ++ cap) w (Ret R)) (h : ∀ v w', R v w' → lw P n ops rest K (updo ρ dst v) w') :
    lw P n ops (⟨dst, .call { callee := .value (.tmp t), args := xs.toArray, argTypes := ats }, ty, pos, aft, none⟩ :: rest) K ρ w := by
  refine lw_enter hd ?_ hc h
  have hm : (xs.toArray.map (ev ρ)) = (xs.map (ev ρ)).toArray := by simp
  simp only [execOp, resolve, ev, hx, hm, Deferred.ofValue, Sem.run_bind, Sem.run_pure, Result.andThen_ok, invoke]
  simp [hf]
theorem lw_callv0 (hd : okd n dst = true) {f : FuncId} {cap : Array Value} {t : Tmp} {ats : Array TypeId} {R : Value → World → Prop} (hf : ∀ args w, (callFunc f args).run P w = .ok (.enter f args) w) (hx : ρ t = .func (.func f) #[] cap)
    (hc : Calls P f cap w (Ret R)) (h : ∀ v w', R v w' → lw P n ops rest K (updo ρ dst v) w') :
    lw P n ops (⟨dst, .call { callee := .value (.tmp t), args := #[], argTypes := ats }, ty, pos, aft, none⟩ :: rest) K ρ w :=
  lw_callv (xs := []) hd hf hx (by simpa using hc) h
/-- Contracts of the elder shapes. -/
theorem Mem.calls {f : FuncId} {args : Array Value} {v : Value} (hs : Mem g w L) (h : Calls P f args w fun e w' => e = .returned v ∧ Below w.heap.size w w') : Calls P f args w (Ret fun v' w' => v' = v ∧ Mem g w' L) :=
  h.mono fun _ _ ⟨h1, h2⟩ => ⟨v, h1, rfl, hs.below h2⟩
theorem Mem.callsE {f : FuncId} {args : Array Value} {v : Value} (hs : Mem g w L) (h : Calls P f args w fun e w' => e = .returned v ∧ w = w') : Calls P f args w (Ret fun v' w' => v' = v ∧ Mem g w' L) :=
  h.mono fun _ _ ⟨h1, h2⟩ => ⟨v, h1, rfl, h2 ▸ hs⟩

/-! ### small words for the printed walks -/
theorem not_t {e : Bool} (h : e = false) : (!e) = true := by rw [h]; rfl
theorem not_f {e : Bool} (h : e = true) : (!e) = false := by rw [h]; rfl
theorem not_b {e : Bool} (h : (!e) = true) : e = false := by cases e <;> simp_all
theorem not_c {e : Bool} (h : (!e) = false) : e = true := by cases e <;> simp_all
theorem ne_t {p : Prop} [Decidable p] (h : (!decide p) = true) : ¬ p := by simpa using h
theorem ne_f {p : Prop} [Decidable p] (h : (!decide p) = false) : p := by simpa using h
theorem inI {n : Int} (h1 : -9223372036854775808 ≤ n) (h2 : n ≤ 9223372036854775807) : InI64 n := ⟨h1, h2⟩
theorem cells_one {l : List Value} (h : ∀ u ∈ l, u.oneCell' = true) : ∀ u ∈ l, u.cells = #[u] := fun u hu => by
  have := h u hu
  cases u <;> first | rfl | (simp [Value.oneCell'] at this)
theorem ret_b {a b : Bool} (h : a = b) : Value.bool a = Value.bool b := by rw [h]
theorem ret_i {k : IntKind} {a b : Int} (h : a = b) : Value.int k a = Value.int k b := by rw [h]
theorem bool_split {p : Prop} {t : Bool} (h1 : t = true → p) (h0 : t = false → p) : p := (Bool.eq_false_or_eq_true t).elim h1 h0
theorem lw_split {l : List Oper} {d : Nat} {t : Bool} (_ : ρ d = .bool t) (h1 : t = true → lw P n ops l K ρ w) (h0 : t = false → lw P n ops l K ρ w) : lw P n ops l K ρ w := bool_split h1 h0
theorem aw_split {S : World → Prop} {fuel : Nat} {listed : Array Bool} {d : Nat} {t : Bool} (_ : ρ d = .bool t) (h1 : t = true → aw P n ops S fuel listed K ρ w) (h0 : t = false → aw P n ops S fuel listed K ρ w) : aw P n ops S fuel listed K ρ w := bool_split h1 h0
/-- A region that draws its order: the chunks of M hold throughout. -/
theorem cw_drawS {N R : Post} {B : List (Nat × Post)} {id : Nat} {l : List Oper} {M : List HP} (hm : P.follows .mixedOrders = true) (hs : Mem g w M) (h : ∀ w1, (∀ L, Mem g w L → Mem g w1 L) → Mem g w1 M → aw P n l.toArray (fun w' => Mem g w' M) l.length (Array.replicate l.length false) N ρ w1) : cw P n (.region id l.toArray true) N B R ρ w :=
  cw_draw _ hm (by simpa using h w.drew (fun _ k => k.drew) hs.drew)
end Go.Proofs.YtmnfehbnjgmgjaaDoor
