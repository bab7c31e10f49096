/- Manifests: the plain model. Errors in cells, in interfaces. An error, bare or with a place, as a value and a chunk; the chunks of a view. The seat's closed facts: sizes and zeros of types, entries of functions. Written by a program (mkty.py). Contracts over chunks that every seat wants. Manifests: the leaves: pairs, objects, copies, equality. Manifests: objects, equality, what is amiss. Manifests: what is amiss with one. SameInts, SameTexts. Manifests: Valid, Same, Clone, Names; what may follow what. Views: plain laws. A view's methods: New, State, Refers, Apply. A kind and a manifest, put together. A view's Apply. max. A view's Next. vint.Put, over chunks. How a sign is turned. Bytes: a copy. The sums' plain law: four bits at a time are as one at a time. crc: halves, More, Of. -/
import Derived.Test.YthejaanobeonnaaGreatDoorGo1
import Derived.Test.YthejaanobeonnaaGreatDoorProg
import Derived.Laws.StructEq
import Derived.Laws.IdiomStrings
import Derived.Laws.Bits64
import Derived.Shelf.Spec.TrailingZeros
import Derived.Deep.LoopGhost
set_option linter.all false
namespace Go.Proofs.YthejaanobeonnaaGreatDoor
section
abbrev Pr := Int × Int
abbrev Ob := ByteArray × Int × Nat
structure Mf where
  id : Int
  base : Int
  fin : Int
  time : Int
  eps : List Pr
  obs : List Ob
deriving DecidableEq
def Mf.z : Mf := ⟨0, 0, 0, 0, [], []⟩
def prL (p : Pr) : List Value := [.int .i64 p.1, .int .i64 p.2]
def obL (o : Ob) : List Value := [.string o.1, .int .i64 o.2.1, .int .u32 o.2.2]
abbrev SA := Option Addr × Nat
def mfL (x : Mf) (e o : SA) : List Value := [.int .i64 x.id, .int .i64 x.base, .int .i64 x.fin, .int .i64 x.time, .slice e.1 x.eps.length e.2, .slice o.1 x.obs.length o.2]
abbrev Flt := Nat × Option Nat
def zEu (n : Int) : Bool := decide (0 ≤ n) && decide (n ≤ 1099511627776)
def rightE (n : Int) : Bool := decide (0 ≤ n) && decide (n ≤ 1073741824)
def rightT (n : Int) : Bool := decide (-1099511627776 ≤ n) && decide (n ≤ 1099511627776)
def prOk (p : Pr) : Bool := rightE p.1 && zEu p.2
def risAt (l : List Pr) (i : Nat) : Bool := decide ((l.getD (i - 1) (0, 0)).1 < (l.getD i (0, 0)).1) && decide ((l.getD (i - 1) (0, 0)).2 < (l.getD i (0, 0)).2)
def ris (l : List Pr) : Bool := (List.range l.length).all fun i => i == 0 || risAt l i
theorem ris_iff {l : List Pr} : ris l = true ↔ ∀ i, 1 ≤ i → i < l.length → risAt l i = true := by
  simp only [ris, List.all_eq_true, List.mem_range, Bool.or_eq_true, beq_iff_eq]
  constructor
  · intro h i h1 h2
    rcases h i h2 with h | h
    · omega
    · exact h
  · intro h i h2
    rcases Nat.eq_zero_or_pos i with h0 | h0
    · exact .inl h0
    · exact .inr (h i h0 h2)
theorem ris_no {l : List Pr} {i : Nat} (h1 : 1 ≤ i) (h2 : i < l.length) (h : risAt l i = false) : ris l = false := by
  cases hr : ris l with
  | false => rfl
  | true => rw [ris_iff.1 hr i h1 h2] at h; cases h
def epF (l : List Pr) : Nat := if 256 < l.length then 104 else if l.all prOk = false then 105 else if ris l = false then 103 else 0
def zD7 (o : Ob) : Nat := if zBy o.1.data.toList = false then 106 else if o.2.1 < 0 ∨ 1073741824 < o.2.1 then 105 else 0
def obF (l : List Ob) : Flt :=
  if l.length < 1 ∨ 8 < l.length then (104, none) else
  match l.findIdx? fun o => zD7 o != 0 with
  | some i => (zD7 (l.getD i (ByteArray.empty, 0, 0)), some i)
  | none => if (l.map Prod.fst).Nodup then (0, none) else (103, none)
theorem obF_bad {l : List Ob} {i : Nat} {o : Ob} (h0 : ¬ (l.length < 1 ∨ 8 < l.length)) (ho : l[i]? = some o) (hb : zD7 o ≠ 0) (h : ∀ j, j < i → ∀ u, l[j]? = some u → zD7 u = 0) : obF l = (zD7 o, some i) := by
  obtain ⟨hi, he⟩ := List.getElem?_eq_some_iff.1 ho
  have : (l.findIdx? fun o => zD7 o != 0) = some i := by
    rw [List.findIdx?_eq_some_iff_getElem]; refine ⟨hi, by rw [he]; simpa using hb, fun j hj => ?_⟩; have := h j hj _ (List.getElem?_eq_getElem (by omega))
    simp [this]
  simp only [obF, if_neg h0, this]; rw [List.getD_eq_getElem?_getD, ho]
  rfl
theorem findIdx_none {l : List Ob} (h : ∀ (j : Nat) (u : Ob), l[j]? = some u → zD7 u = 0) : (l.findIdx? fun o => zD7 o != 0) = none := by
  rw [List.findIdx?_eq_none_iff]; intro u hu; obtain ⟨j, hj⟩ := List.mem_iff_getElem?.1 hu
  simp [h j u hj]
theorem obF_fine {l : List Ob} (h0 : ¬ (l.length < 1 ∨ 8 < l.length)) (h : ∀ (j : Nat) (u : Ob), l[j]? = some u → zD7 u = 0) : obF l = if (l.map Prod.fst).Nodup then (0, none) else (103, none) := by
  simp only [obF, if_neg h0, findIdx_none h]
def zBl (x : Mf) : Bool := decide (x.id < 0) || decide (2147483647 < x.id) || !zEu x.base || !zEu x.fin || decide (x.time < -1099511627776) || decide (1099511627776 < x.time) || decide (x.fin ≤ x.base)
def zDh (x : Mf) : Bool := decide (x.eps.length = 0) || decide ((x.eps.getD 0 (0, 0)).2 ≠ x.base) || decide (x.fin ≤ (x.eps.getD (x.eps.length - 1) (0, 0)).2)
def mfF (x : Mf) : Flt :=
  if zBl x then (105, none) else if epF x.eps ≠ 0 then (epF x.eps, none) else if zDh x then (103, none) else obF x.obs
theorem obBad_code (o : Ob) : zD7 o = 0 ∨ zD7 o = 106 ∨ zD7 o = 105 := by
  unfold zD7
  split
  · exact .inr (.inl rfl)
  · split
    · exact .inr (.inr rfl)
    · exact .inl rfl
theorem epF_code (l : List Pr) : epF l = 0 ∨ epF l = 104 ∨ epF l = 105 ∨ epF l = 103 := by
  unfold epF
  split
  · exact .inr (.inl rfl)
  · split
    · exact .inr (.inr (.inl rfl))
    · split
      · exact .inr (.inr (.inr rfl))
      · exact .inl rfl
def FltOk (f : Flt) : Prop := (f = (0, none) ∨ f.1 ∈ [103, 104, 105, 106]) ∧ (f.2 = none ∨ f.1 ∈ [105, 106])
theorem obF_ok (l : List Ob) : FltOk (obF l) := by
  unfold obF
  split
  · exact ⟨.inr (by decide), .inl rfl⟩
  · split
    · rename_i i hi
      rw [List.findIdx?_eq_some_iff_getElem] at hi; obtain ⟨hl, hb, _⟩ := hi
      have hg : l.getD i (ByteArray.empty, 0, 0) = l[i] := by rw [List.getD_eq_getElem?_getD, List.getElem?_eq_getElem hl]; rfl
      rw [hg]
      rcases obBad_code l[i] with h | h | h
      · simp [h] at hb
      · rw [h]; exact ⟨.inr (by simp), .inr (by simp)⟩
      · rw [h]; exact ⟨.inr (by simp), .inr (by simp)⟩
    · split
      · exact ⟨.inl rfl, .inl rfl⟩
      · exact ⟨.inr (by decide), .inl rfl⟩
theorem mfF_ok (x : Mf) : FltOk (mfF x) := by
  unfold mfF
  split
  · exact ⟨.inr (by decide), .inl rfl⟩
  · split
    · rename_i h
      refine ⟨.inr ?_, .inl rfl⟩
      rcases epF_code x.eps with e | e | e | e
      · exact absurd e h
      all_goals rw [e]; decide
    · split
      · exact ⟨.inr (by decide), .inl rfl⟩
      · exact obF_ok _
def nextB (s k : Int) : Bool := if k = 1 then decide (s = 0) else if k = 2 then decide (s = 1) else if k = 3 then decide (s = 1) || decide (s = 2) else if k = 4 then decide (s = 3) else false
structure Itm where
  st : Int
  m : Mf
deriving DecidableEq
abbrev Vw := List (Int × Itm)
def Vw.state (V : Vw) (id : Int) : Int := (zAx V id).elim 0 Itm.st
def Vw.apply (V : Vw) (k : Int) (x : Mf) : Flt × Vw :=
  if (mfF x).1 ≠ 0 then (mfF x, V) else
  if k < 1 ∨ 4 < k then ((112, none), V) else
  if nextB (V.state x.id) k = false then ((113, none), V) else
  match zAx V x.id with
  | none => if 4096 ≤ V.length then ((104, none), V) else ((0, none), zC1 V x.id ⟨k, x⟩)
  | some i => if i.m = x then ((0, none), zC1 V x.id ⟨k, x⟩) else ((103, none), V)
def Mf.names (x : Mf) : List ByteArray := x.obs.map Prod.fst
def hasN (l : List ByteArray) (n : ByteArray) : Bool := l.any fun x => decide (x = n)
def refersB (i : Itm) (n : ByteArray) : Bool := (decide (i.st = 1) || decide (i.st = 2)) && hasN i.m.names n
def Vw.refers (V : Vw) (n : ByteArray) : Bool := V.any fun x => refersB x.2 n
end
section
open Go.RowKit
variable {g w : World} {ad : Nat → Addr}
theorem run_mkI {P : Program} {ρ : Env} {dst : Option Tmp} {ty : TypeId} {pos : String} {aft : Array Edge} {x : Operand} {t e : TypeId} {v : Value} (ht : P.underlying t = some (.pointer e)) (hx : ev ρ x = v) : (execOp (ev ρ) ⟨dst, .makeInterface t x, ty, pos, aft, none⟩).run P w = .ok (.value (.iface t v)) w := by
  simp [execOp, Instr.makeInterface, run_underlying ht, hx]
theorem errV_one (ad : Nat → Addr) (c : Nat) : (zAk ad c).oneCell' = true := by unfold zAk; split <;> rfl
theorem at_one (z : Int) (k : Nat) : ∀ u ∈ [Value.int .i64 z, zAk ad k], u.cells = #[u] := zEk fun u hu => by
  simp only [List.mem_cons, List.not_mem_nil, or_false] at hu
  rcases hu with rfl | rfl
  · rfl
  · exact errV_one ad k
theorem zGs {P : Program} {ρ : Env} {dst : Option Tmp} {ty : TypeId} {pos : String} {aft : Array Edge} {x y : Operand} {t u : TypeId} {a b : ByteArray} (hx : ev ρ x = .string a) (hy : ev ρ y = .string b) (hl : a.size + b.size ≤ 9223372036854775807) : (execOp (ev ρ) ⟨dst, .binOp .add t x y u, ty, pos, aft, none⟩).run P w = .ok (.value (.string (a ++ b))) w := by
  have hl2 : (a.size : Int) + b.size ≤ 9223372036854775807 := by omega
  simp [execOp, hx, hy, guard_str, binOp, Op.stringOp, hl2]
end
section
open Go.RowKit
variable {g w : World} {L M : List HP} {ad : Nat → Addr} {p : Nat}
def flV (ad : Nat → Addr) (f : Flt) (eb : Nat) : Value := match f.2 with | none => zAk ad f.1 | some _ => .iface 112 (.pointer (some ⟨eb, 0, none⟩))
def flC (ad : Nat → Addr) (f : Flt) (eb : Nat) : HP := match f.2 with | none => emp | some z => cells eb [.int .i64 (z : Nat), zAk ad f.1] 114
theorem flV_bare (c eb : Nat) : flV ad (c, none) eb = zAk ad c := rfl
theorem flC_bare (c eb : Nat) : flC ad (c, none) eb = emp := rfl
theorem flV_at (c z eb : Nat) : flV ad (c, some z) eb = .iface 112 (.pointer (some ⟨eb, 0, none⟩)) := rfl
theorem emp_okF (w : World) : emp.ok (fun _ => False) w := fun _ h => h
def RetF (ad : Nat → Addr) (f : Flt) (g : World) (L : List HP) : Value → World → Prop := fun v w' => ∃ eb, v = flV ad f eb ∧ Mem g w' (flC ad f eb :: L)
theorem RetF.bare {c : Nat} (hs : Mem g w L) : RetF ad (c, none) g L (zAk ad c) w := ⟨0, rfl, hs.addE (emp_okF w)⟩
section
variable {ρ : Env} {dst : Option Tmp} {ty : TypeId} {pos : String} {aft : Array Edge} {x : Operand} {u : TypeId} {f : Flt} {eb : Nat}
theorem run_neF (hf : f.2 = none ∨ f.1 ≠ 0) (hx : ev ρ x = flV ad f eb) : (execOp (ev ρ) ⟨dst, .binOp .neq 27 x (.const .nilIface) u, ty, pos, aft, none⟩).run Tryz.prog w = .ok (.value (.bool (!decide (f.1 = 0)))) w := by
  obtain ⟨c, z⟩ := f
  cases z with
  | none => exact zAv hx
  | some z =>
    have hc : c ≠ 0 := by simpa using hf
    rw [flV_at] at hx; rw [show (decide (((c, some z) : Flt).1 = 0)) = false from decide_eq_false hc]; have hy : ev ρ (.const .nilIface) = .nilIface := rfl
    have hg : (eqGuard .neq 27 x (.const .nilIface) (.iface 112 (.pointer (some ⟨eb, 0, none⟩))) .nilIface).run Tryz.prog w = .ok () w := by cases x <;> rfl
    have hb : binOp .neq 27 (.iface 112 (.pointer (some ⟨eb, 0, none⟩))) .nilIface = (do pure (.bool (!(← Op.equal 27 (.iface 112 (.pointer (some ⟨eb, 0, none⟩))) .nilIface)))) := rfl
    have he : (Op.equal 27 (.iface 112 (.pointer (some ⟨eb, 0, none⟩))) .nilIface).run Tryz.prog w = .ok false w := by
      show (Op.equalIn 10000 _ _ _).run Tryz.prog w = _
      rw [Op.equalIn]
      simp [run_underlying zCq]
    simp only [execOp, hx, hy, Sem.run_bind, hg, hb, he, Result.andThen_ok, Sem.run_pure]
end
theorem FltOk.place {f : Flt} (h : FltOk f) : f.2 = none ∨ f.1 ≠ 0 := by
  rcases h.2 with h | h
  · exact .inl h
  · right; intro e; rw [e] at h; revert h; decide
structure MfR (g : World) (L : List HP) (x : Mf) (e o : SA) : Prop where
  eps : RdK g L 2 (.slice e.1 x.eps.length e.2) (x.eps.map prL)
  obs : RdK g L 3 (.slice o.1 x.obs.length o.2) (x.obs.map obL)
theorem MfR.cons {x : Mf} {e o : SA} {C : HP} (h : MfR g L x e o) : MfR g (C :: L) x e o := ⟨h.eps.cons, h.obs.cons⟩
abbrev mfP (x : Mf) (e o : SA) : List HP := [zE0 2 (.slice e.1 x.eps.length e.2) (x.eps.map prL), zE0 3 (.slice o.1 x.obs.length o.2) (x.obs.map obL)]
theorem MfR.own {x : Mf} {e o : SA} (i j : Nat) (hi : L[i]? = some (zE0 2 (.slice e.1 x.eps.length e.2) (x.eps.map prL))) (hj : L[j]? = some (zE0 3 (.slice o.1 x.obs.length o.2) (x.obs.map obL))) : MfR g L x e o := ⟨RdK.row i hi, RdK.row j hj⟩
theorem zEh {l : List Pr} {k : Nat} {x : Pr} (h : l[k]? = some x) : (l.map prL)[k]? = some (prL x) := by simp [h]
theorem zG9 {l : List Ob} {k : Nat} {x : Ob} (h : l[k]? = some x) : (l.map obL)[k]? = some (obL x) := by simp [h]
theorem prL_rows (l : List Pr) : ∀ r ∈ l.map prL, r.length = 2 ∧ ∀ u ∈ r, u.oneCell' = true := fun r hr => by
  obtain ⟨x, _, rfl⟩ := List.mem_map.1 hr; refine ⟨rfl, fun u hu => ?_⟩; simp only [prL, List.mem_cons, List.not_mem_nil, or_false] at hu
  rcases hu with rfl | rfl <;> rfl
theorem obL_rows (l : List Ob) : ∀ r ∈ l.map obL, r.length = 3 ∧ ∀ u ∈ r, u.oneCell' = true := fun r hr => by
  obtain ⟨x, _, rfl⟩ := List.mem_map.1 hr; refine ⟨rfl, fun u hu => ?_⟩; simp only [obL, List.mem_cons, List.not_mem_nil, or_false] at hu
  rcases hu with rfl | rfl | rfl <;> rfl
def itmV (i : Itm) (e o : SA) : Value := .agg (.int .i64 i.st :: mfL i.m e o).toArray
def itmC (v : Value) (i : Itm) : HP := ex fun s : SA × SA => also (stars (mfP i.m s.1 s.2)) (v = itmV i s.1 s.2)
theorem Mem.openItm {v : Value} {i : Itm} (hs : Mem g w (itmC v i :: L)) : ∃ e o, v = itmV i e o ∧ Mem g w (mfP i.m e o ++ L) := by
  obtain ⟨⟨e, o⟩, h⟩ := hs.unex; obtain ⟨h1, h2⟩ := h.unalso; exact ⟨e, o, h1, h2.unstars⟩
theorem Mem.closeItm {i : Itm} {e o : SA} (hs : Mem g w (mfP i.m e o ++ L)) : Mem g w (itmC (itmV i e o) i :: L) :=
  Mem.ex (f := fun s : SA × SA => Go.Proofs.YthejaanobeonnaaGreatDoor.also (Go.Proofs.YthejaanobeonnaaGreatDoor.stars (mfP i.m s.1 s.2)) (itmV i e o = itmV i s.1 s.2)) (e, o) (Mem.also rfl hs.stars)
structure Vw.ok (V : Vw) : Prop where
  nd : (zAm V).Nodup
  fine : ∀ x ∈ V, (mfF x.2.m).1 = 0 ∧ x.2.m.id = x.1 ∧ 1 ≤ x.2.st ∧ x.2.st ≤ 4
  few : V.length ≤ 4096
abbrev mapV (m : Nat) (es : List (Int × Value)) : HP := mapC (Value.int .i64) m es
abbrev viewP (p m : Nat) (es : List (Int × Value)) (V : Vw) : List HP := [cells p [.map (some m)] 131, mapV m es, famC itmC es V]
def ViewC (p : Nat) (V : Vw) : HP := ex fun x : Nat × List (Int × Value) => also (stars (viewP p x.1 x.2 V)) V.ok
theorem Mem.openV {V : Vw} (hs : Mem g w (ViewC p V :: L)) : V.ok ∧ ∃ m es, Mem g w (viewP p m es V ++ L) := by
  obtain ⟨⟨m, es⟩, h⟩ := hs.unex; obtain ⟨h1, h2⟩ := h.unalso; exact ⟨h1, m, es, h2.unstars⟩
theorem Mem.closeV {V : Vw} {m : Nat} {es : List (Int × Value)} (ho : V.ok) (hs : Mem g w (viewP p m es V ++ L)) : Mem g w (ViewC p V :: L) :=
  Mem.ex (f := fun x : Nat × List (Int × Value) => Go.Proofs.YthejaanobeonnaaGreatDoor.also (Go.Proofs.YthejaanobeonnaaGreatDoor.stars (viewP p x.1 x.2 V)) V.ok) (m, es) (Mem.also ho hs.stars)
theorem Mem.closeV1 {C : HP} {V : Vw} {m : Nat} {es : List (Int × Value)} (ho : V.ok) (hs : Mem g w (C :: (viewP p m es V ++ L))) : Mem g w (C :: ViewC p V :: L) :=
  (Mem.closeV (L := C :: L) ho (hs.arr [1, 2, 3, 0] 4 (by decide))).arr [1, 0] 2 (by decide)
theorem keys_len {κ α β : Type} {l : List (κ × α)} {m : List (κ × β)} (h : zAm l = zAm m) : l.length = m.length := by
  have := congrArg List.length h
  simpa [zAm] using this
end
section
open Go.RowKit
theorem in2 : (Tryz.prog.info? 2).map (fun i => (i.zero, i.size, i.bytes)) = some (some (.int .i64 0), 1, 8) := by kernel_rfl
theorem sz2 : (Tryz.prog.info? 2).map (·.size) = some 1 := by kernel_rfl
theorem zs2 : (Tryz.prog.info? 2).map (fun i => (i.zero, i.size)) = some (some (.int .i64 0), 1) := by kernel_rfl
theorem in3 : (Tryz.prog.info? 3).map (fun i => (i.zero, i.size, i.bytes)) = some (some (.int .i64 0), 1, 8) := by kernel_rfl
theorem sz3 : (Tryz.prog.info? 3).map (·.size) = some 1 := by kernel_rfl
theorem ze3 : (Tryz.prog.info? 3).map (·.zero) = some (some (.int .i64 0)) := by kernel_rfl
theorem zs3 : (Tryz.prog.info? 3).map (fun i => (i.zero, i.size)) = some (some (.int .i64 0), 1) := by kernel_rfl
theorem sz4 : (Tryz.prog.info? 4).map (·.size) = some 1 := by kernel_rfl
theorem in5 : (Tryz.prog.info? 5).map (fun i => (i.zero, i.size, i.bytes)) = some (some (.int .u8 0), 1, 1) := by kernel_rfl
theorem sz5 : (Tryz.prog.info? 5).map (·.size) = some 1 := by kernel_rfl
theorem zs5 : (Tryz.prog.info? 5).map (fun i => (i.zero, i.size)) = some (some (.int .u8 0), 1) := by kernel_rfl
theorem sz9 : (Tryz.prog.info? 9).map (·.size) = some 1 := by kernel_rfl
theorem ze9 : (Tryz.prog.info? 9).map (·.zero) = some (some (.string ByteArray.empty)) := by kernel_rfl
theorem in22 : (Tryz.prog.info? 22).map (fun i => (i.zero, i.size, i.bytes)) = some (some (.slice none 0 0), 1, 24) := by kernel_rfl
theorem sz22 : (Tryz.prog.info? 22).map (·.size) = some 1 := by kernel_rfl
theorem ze22 : (Tryz.prog.info? 22).map (·.zero) = some (some (.slice none 0 0)) := by kernel_rfl
theorem zs22 : (Tryz.prog.info? 22).map (fun i => (i.zero, i.size)) = some (some (.slice none 0 0), 1) := by kernel_rfl
theorem sz25 : (Tryz.prog.info? 25).map (·.size) = some 1 := by kernel_rfl
theorem sz27 : (Tryz.prog.info? 27).map (·.size) = some 1 := by kernel_rfl
theorem sz30 : (Tryz.prog.info? 30).map (·.size) = some 1 := by kernel_rfl
theorem sz32 : (Tryz.prog.info? 32).map (·.size) = some 1 := by kernel_rfl
theorem sz33 : (Tryz.prog.info? 33).map (·.size) = some 1 := by kernel_rfl
theorem sz36 : (Tryz.prog.info? 36).map (·.size) = some 1 := by kernel_rfl
theorem sz37 : (Tryz.prog.info? 37).map (·.size) = some 1 := by kernel_rfl
theorem zEt : (Tryz.prog.info? 39).map (·.size) = some 6 := by kernel_rfl
theorem ze39 : (Tryz.prog.info? 39).map (·.zero) = some (some (.agg #[.int .i64 0, .int .i64 0, .int .i64 0, .int .i64 0, .slice none 0 0, .slice none 0 0])) := by kernel_rfl
theorem pl39 (w : World) : ((#[{ name := "ID", type := 3, offset := 0, embedded := false, tag := "", pkgPath := "", byteOffset := 0 }, { name := "Base", type := 2, offset := 1, embedded := false, tag := "", pkgPath := "", byteOffset := 8 }, { name := "End", type := 2, offset := 2, embedded := false, tag := "", pkgPath := "", byteOffset := 16 }, { name := "Time", type := 2, offset := 3, embedded := false, tag := "", pkgPath := "", byteOffset := 24 }, { name := "Epochs", type := 36, offset := 4, embedded := false, tag := "", pkgPath := "", byteOffset := 32 }, { name := "Objects", type := 37, offset := 5, embedded := false, tag := "", pkgPath := "", byteOffset := 56 }] : Array Field).mapM (m := Sem) fun f => do pure (f.offset, ← sizeOf f.type)).run Tryz.prog w = .ok #[(0, 1), (1, 1), (2, 1), (3, 1), (4, 1), (5, 1)] w := by kernel_rfl
theorem zGe : (Tryz.prog.info? 42).map (·.size) = some 3 := by kernel_rfl
theorem ze42 : (Tryz.prog.info? 42).map (·.zero) = some (some (.agg #[.int .i64 0, .bool false, .int .i64 0])) := by kernel_rfl
theorem pl42 (w : World) : ((#[{ name := "Code", type := 3, offset := 0, embedded := false, tag := "", pkgPath := "", byteOffset := 0 }, { name := "Placed", type := 4, offset := 1, embedded := false, tag := "", pkgPath := "", byteOffset := 8 }, { name := "Pos", type := 3, offset := 2, embedded := false, tag := "", pkgPath := "", byteOffset := 16 }] : Array Field).mapM (m := Sem) fun f => do pure (f.offset, ← sizeOf f.type)).run Tryz.prog w = .ok #[(0, 1), (1, 1), (2, 1)] w := by kernel_rfl
theorem in46 : (Tryz.prog.info? 46).map (fun i => (i.zero, i.size, i.bytes)) = some (some (.agg #[.int .i64 0, .int .i64 0]), 2, 16) := by kernel_rfl
theorem sz46 : (Tryz.prog.info? 46).map (·.size) = some 2 := by kernel_rfl
theorem ze46 : (Tryz.prog.info? 46).map (·.zero) = some (some (.agg #[.int .i64 0, .int .i64 0])) := by kernel_rfl
theorem pl46 (w : World) : ((#[{ name := "Epoch", type := 3, offset := 0, embedded := false, tag := "", pkgPath := "", byteOffset := 0 }, { name := "Start", type := 2, offset := 1, embedded := false, tag := "", pkgPath := "", byteOffset := 8 }] : Array Field).mapM (m := Sem) fun f => do pure (f.offset, ← sizeOf f.type)).run Tryz.prog w = .ok #[(0, 1), (1, 1)] w := by kernel_rfl
theorem sz54 : (Tryz.prog.info? 54).map (·.size) = some 1 := by kernel_rfl
theorem sz62 : (Tryz.prog.info? 62).map (·.size) = some 1 := by kernel_rfl
theorem sz64 : (Tryz.prog.info? 64).map (·.size) = some 1 := by kernel_rfl
theorem ze64 : (Tryz.prog.info? 64).map (·.zero) = some (some (.int .u32 0)) := by kernel_rfl
theorem in66 : (Tryz.prog.info? 66).map (fun i => (i.zero, i.size, i.bytes)) = some (some (.agg #[.string ByteArray.empty, .int .i64 0, .int .u32 0]), 3, 32) := by kernel_rfl
theorem sz66 : (Tryz.prog.info? 66).map (·.size) = some 3 := by kernel_rfl
theorem ze66 : (Tryz.prog.info? 66).map (·.zero) = some (some (.agg #[.string ByteArray.empty, .int .i64 0, .int .u32 0])) := by kernel_rfl
theorem pl66 (w : World) : ((#[{ name := "Name", type := 9, offset := 0, embedded := false, tag := "", pkgPath := "", byteOffset := 0 }, { name := "Len", type := 3, offset := 1, embedded := false, tag := "", pkgPath := "", byteOffset := 16 }, { name := "Sum", type := 64, offset := 2, embedded := false, tag := "", pkgPath := "", byteOffset := 24 }] : Array Field).mapM (m := Sem) fun f => do pure (f.offset, ← sizeOf f.type)).run Tryz.prog w = .ok #[(0, 1), (1, 1), (2, 1)] w := by kernel_rfl
theorem sz74 : (Tryz.prog.info? 74).map (·.size) = some 1 := by kernel_rfl
theorem sz77 : (Tryz.prog.info? 77).map (·.size) = some 1 := by kernel_rfl
theorem sz85 : (Tryz.prog.info? 85).map (·.size) = some 1 := by kernel_rfl
theorem sz86 : (Tryz.prog.info? 86).map (·.size) = some 1 := by kernel_rfl
theorem ze88 : (Tryz.prog.info? 88).map (·.zero) = some (some (.agg #[.int .i64 0, .map none, .map none, .slice none 0 0, .int .i64 0, .int .i64 0, .bool false, .int .i64 0])) := by kernel_rfl
theorem pl88 (w : World) : ((#[{ name := "room", type := 3, offset := 0, embedded := false, tag := "", pkgPath := "cordwood/disk", byteOffset := 0 }, { name := "names", type := 85, offset := 1, embedded := false, tag := "", pkgPath := "cordwood/disk", byteOffset := 8 }, { name := "kept", type := 85, offset := 2, embedded := false, tag := "", pkgPath := "cordwood/disk", byteOffset := 16 }, { name := "changes", type := 86, offset := 3, embedded := false, tag := "", pkgPath := "cordwood/disk", byteOffset := 24 }, { name := "files", type := 3, offset := 4, embedded := false, tag := "", pkgPath := "cordwood/disk", byteOffset := 48 }, { name := "armed", type := 3, offset := 5, embedded := false, tag := "", pkgPath := "cordwood/disk", byteOffset := 56 }, { name := "down", type := 4, offset := 6, embedded := false, tag := "", pkgPath := "cordwood/disk", byteOffset := 64 }, { name := "calls", type := 3, offset := 7, embedded := false, tag := "", pkgPath := "cordwood/disk", byteOffset := 72 }] : Array Field).mapM (m := Sem) fun f => do pure (f.offset, ← sizeOf f.type)).run Tryz.prog w = .ok #[(0, 1), (1, 1), (2, 1), (3, 1), (4, 1), (5, 1), (6, 1), (7, 1)] w := by kernel_rfl
theorem sz89 : (Tryz.prog.info? 89).map (·.size) = some 1 := by kernel_rfl
theorem sz90 : (Tryz.prog.info? 90).map (·.size) = some 1 := by kernel_rfl
theorem ze92 : (Tryz.prog.info? 92).map (·.zero) = some (some (.agg #[.map none, .map none, .int .i64 0, .slice none 0 0, .int .i64 0, .int .i64 0])) := by kernel_rfl
theorem pl92 (w : World) : ((#[{ name := "objects", type := 89, offset := 0, embedded := false, tag := "", pkgPath := "cordwood/store", byteOffset := 0 }, { name := "uploads", type := 90, offset := 1, embedded := false, tag := "", pkgPath := "cordwood/store", byteOffset := 8 }, { name := "ids", type := 3, offset := 2, embedded := false, tag := "", pkgPath := "cordwood/store", byteOffset := 16 }, { name := "script", type := 74, offset := 3, embedded := false, tag := "", pkgPath := "cordwood/store", byteOffset := 24 }, { name := "calls", type := 3, offset := 4, embedded := false, tag := "", pkgPath := "cordwood/store", byteOffset := 48 }, { name := "failed", type := 3, offset := 5, embedded := false, tag := "", pkgPath := "cordwood/store", byteOffset := 56 }] : Array Field).mapM (m := Sem) fun f => do pure (f.offset, ← sizeOf f.type)).run Tryz.prog w = .ok #[(0, 1), (1, 1), (2, 1), (3, 1), (4, 1), (5, 1)] w := by kernel_rfl
theorem zEa : (Tryz.prog.info? 103).map (·.size) = some 4 := by kernel_rfl
theorem ze103 : (Tryz.prog.info? 103).map (·.zero) = some (some (.agg #[.int .i64 0, .int .i64 0, .int .i64 0, .int .i64 0])) := by kernel_rfl
theorem pl103 (w : World) : ((#[{ name := "ID", type := 3, offset := 0, embedded := false, tag := "", pkgPath := "", byteOffset := 0 }, { name := "Object", type := 3, offset := 1, embedded := false, tag := "", pkgPath := "", byteOffset := 8 }, { name := "Upload", type := 3, offset := 2, embedded := false, tag := "", pkgPath := "", byteOffset := 16 }, { name := "Done", type := 3, offset := 3, embedded := false, tag := "", pkgPath := "", byteOffset := 24 }] : Array Field).mapM (m := Sem) fun f => do pure (f.offset, ← sizeOf f.type)).run Tryz.prog w = .ok #[(0, 1), (1, 1), (2, 1), (3, 1)] w := by kernel_rfl
theorem sz104 : (Tryz.prog.info? 104).map (·.size) = some 1 := by kernel_rfl
theorem ze106 : (Tryz.prog.info? 106).map (·.zero) = some (some (.agg #[.pointer none, .pointer none, .pointer none, .int .i64 0, .int .i64 0, .int .i64 0, .int .i64 0, .slice none 0 0, .slice none 0 0, .slice none 0 0, .slice none 0 0, .int .i64 0, .int .i64 0, .int .i64 0, .int .i64 0, .bool false])) := by kernel_rfl
theorem pl106 (w : World) : ((#[{ name := "d", type := 25, offset := 0, embedded := false, tag := "", pkgPath := "cordwood/up", byteOffset := 0 }, { name := "l", type := 32, offset := 1, embedded := false, tag := "", pkgPath := "cordwood/up", byteOffset := 8 }, { name := "c", type := 33, offset := 2, embedded := false, tag := "", pkgPath := "cordwood/up", byteOffset := 16 }, { name := "m", type := 39, offset := 3, embedded := false, tag := "", pkgPath := "cordwood/up", byteOffset := 24 }, { name := "blobs", type := 62, offset := 9, embedded := false, tag := "", pkgPath := "cordwood/up", byteOffset := 104 }, { name := "plans", type := 104, offset := 10, embedded := false, tag := "", pkgPath := "cordwood/up", byteOffset := 128 }, { name := "at", type := 103, offset := 11, embedded := false, tag := "", pkgPath := "cordwood/up", byteOffset := 152 }, { name := "over", type := 4, offset := 15, embedded := false, tag := "", pkgPath := "cordwood/up", byteOffset := 184 }] : Array Field).mapM (m := Sem) fun f => do pure (f.offset, ← sizeOf f.type)).run Tryz.prog w = .ok #[(0, 1), (1, 1), (2, 1), (3, 6), (9, 1), (10, 1), (11, 4), (15, 1)] w := by kernel_rfl
theorem in109 : (Tryz.prog.info? 109).map (fun i => (i.zero, i.size, i.bytes)) = some (some (.agg #[.string ByteArray.empty, .int .i64 0, .int .u32 0, .int .i64 0, .int .i64 0]), 5, 48) := by kernel_rfl
theorem zGh : (Tryz.prog.info? 109).map (·.size) = some 5 := by kernel_rfl
theorem ze109 : (Tryz.prog.info? 109).map (·.zero) = some (some (.agg #[.string ByteArray.empty, .int .i64 0, .int .u32 0, .int .i64 0, .int .i64 0])) := by kernel_rfl
theorem pl109 (w : World) : ((#[{ name := "Name", type := 9, offset := 0, embedded := false, tag := "", pkgPath := "", byteOffset := 0 }, { name := "Size", type := 3, offset := 1, embedded := false, tag := "", pkgPath := "", byteOffset := 16 }, { name := "Sum", type := 64, offset := 2, embedded := false, tag := "", pkgPath := "", byteOffset := 24 }, { name := "Each", type := 3, offset := 3, embedded := false, tag := "", pkgPath := "", byteOffset := 32 }, { name := "Parts", type := 3, offset := 4, embedded := false, tag := "", pkgPath := "", byteOffset := 40 }] : Array Field).mapM (m := Sem) fun f => do pure (f.offset, ← sizeOf f.type)).run Tryz.prog w = .ok #[(0, 1), (1, 1), (2, 1), (3, 1), (4, 1)] w := by kernel_rfl
theorem ze114 : (Tryz.prog.info? 114).map (·.zero) = some (some (.agg #[.int .i64 0, .nilIface])) := by kernel_rfl
theorem pl114 (w : World) : ((#[{ name := "Pos", type := 3, offset := 0, embedded := false, tag := "", pkgPath := "", byteOffset := 0 }, { name := "Err", type := 27, offset := 1, embedded := false, tag := "", pkgPath := "", byteOffset := 8 }] : Array Field).mapM (m := Sem) fun f => do pure (f.offset, ← sizeOf f.type)).run Tryz.prog w = .ok #[(0, 1), (1, 1)] w := by kernel_rfl
theorem sz121 : (Tryz.prog.info? 121).map (·.size) = some 7 := by kernel_rfl
theorem ze121 : (Tryz.prog.info? 121).map (·.zero) = some (some (.agg #[.int .i64 0, .int .i64 0, .int .i64 0, .int .i64 0, .int .i64 0, .slice none 0 0, .slice none 0 0])) := by kernel_rfl
theorem pl121 (w : World) : ((#[{ name := "Kind", type := 3, offset := 0, embedded := false, tag := "", pkgPath := "", byteOffset := 0 }, { name := "M", type := 39, offset := 1, embedded := false, tag := "", pkgPath := "", byteOffset := 8 }] : Array Field).mapM (m := Sem) fun f => do pure (f.offset, ← sizeOf f.type)).run Tryz.prog w = .ok #[(0, 1), (1, 6)] w := by kernel_rfl
theorem sz122 : (Tryz.prog.info? 122).map (·.size) = some 1 := by kernel_rfl
theorem zs122 : (Tryz.prog.info? 122).map (fun i => (i.zero, i.size)) = some (some (.nilFunc), 1) := by kernel_rfl
theorem ze126 : (Tryz.prog.info? 126).map (·.zero) = some (some (.agg #[.pointer none, .int .i64 0, .pointer none, .int .i64 0, .int .i64 0, .int .i64 0])) := by kernel_rfl
theorem pl126 (w : World) : ((#[{ name := "d", type := 25, offset := 0, embedded := false, tag := "", pkgPath := "cordwood/mlog", byteOffset := 0 }, { name := "every", type := 3, offset := 1, embedded := false, tag := "", pkgPath := "cordwood/mlog", byteOffset := 8 }, { name := "v", type := 54, offset := 2, embedded := false, tag := "", pkgPath := "cordwood/mlog", byteOffset := 16 }, { name := "seq", type := 2, offset := 3, embedded := false, tag := "", pkgPath := "cordwood/mlog", byteOffset := 24 }, { name := "since", type := 3, offset := 4, embedded := false, tag := "", pkgPath := "cordwood/mlog", byteOffset := 32 }, { name := "size", type := 3, offset := 5, embedded := false, tag := "", pkgPath := "cordwood/mlog", byteOffset := 40 }] : Array Field).mapM (m := Sem) fun f => do pure (f.offset, ← sizeOf f.type)).run Tryz.prog w = .ok #[(0, 1), (1, 1), (2, 1), (3, 1), (4, 1), (5, 1)] w := by kernel_rfl
theorem sz128 : (Tryz.prog.info? 128).map (·.size) = some 7 := by kernel_rfl
theorem ze128 : (Tryz.prog.info? 128).map (·.zero) = some (some (.agg #[.int .i64 0, .int .i64 0, .int .i64 0, .int .i64 0, .int .i64 0, .slice none 0 0, .slice none 0 0])) := by kernel_rfl
theorem pl128 (w : World) : ((#[{ name := "state", type := 3, offset := 0, embedded := false, tag := "", pkgPath := "cordwood/view", byteOffset := 0 }, { name := "m", type := 39, offset := 1, embedded := false, tag := "", pkgPath := "cordwood/view", byteOffset := 8 }] : Array Field).mapM (m := Sem) fun f => do pure (f.offset, ← sizeOf f.type)).run Tryz.prog w = .ok #[(0, 1), (1, 6)] w := by kernel_rfl
theorem sz129 : (Tryz.prog.info? 129).map (·.size) = some 1 := by kernel_rfl
theorem ze131 : (Tryz.prog.info? 131).map (·.zero) = some (some (.agg #[.map none])) := by kernel_rfl
theorem pl131 (w : World) : ((#[{ name := "l", type := 129, offset := 0, embedded := false, tag := "", pkgPath := "cordwood/view", byteOffset := 0 }] : Array Field).mapM (m := Sem) fun f => do pure (f.offset, ← sizeOf f.type)).run Tryz.prog w = .ok #[(0, 1)] w := by kernel_rfl
theorem ze141 : (Tryz.prog.info? 141).map (·.zero) = some (some (.pointer none)) := by kernel_rfl
theorem in146 : (Tryz.prog.info? 146).map (fun i => (i.zero, i.size, i.bytes)) = some (some (.pointer none), 1, 8) := by kernel_rfl
theorem sz146 : (Tryz.prog.info? 146).map (·.size) = some 1 := by kernel_rfl
theorem ze146 : (Tryz.prog.info? 146).map (·.zero) = some (some (.pointer none)) := by kernel_rfl
theorem zs146 : (Tryz.prog.info? 146).map (fun i => (i.zero, i.size)) = some (some (.pointer none), 1) := by kernel_rfl
theorem in148 : (Tryz.prog.info? 148).map (fun i => (i.zero, i.size, i.bytes)) = some (some (.agg #[.string ByteArray.empty, .string ByteArray.empty, .pointer none]), 3, 40) := by kernel_rfl
theorem sz148 : (Tryz.prog.info? 148).map (·.size) = some 3 := by kernel_rfl
theorem ze148 : (Tryz.prog.info? 148).map (·.zero) = some (some (.agg #[.string ByteArray.empty, .string ByteArray.empty, .pointer none])) := by kernel_rfl
theorem pl148 (w : World) : ((#[{ name := "name", type := 9, offset := 0, embedded := false, tag := "", pkgPath := "cordwood/disk", byteOffset := 0 }, { name := "gone", type := 9, offset := 1, embedded := false, tag := "", pkgPath := "cordwood/disk", byteOffset := 16 }, { name := "f", type := 146, offset := 2, embedded := false, tag := "", pkgPath := "cordwood/disk", byteOffset := 32 }] : Array Field).mapM (m := Sem) fun f => do pure (f.offset, ← sizeOf f.type)).run Tryz.prog w = .ok #[(0, 1), (1, 1), (2, 1)] w := by kernel_rfl
theorem sz154 : (Tryz.prog.info? 154).map (·.size) = some 3 := by kernel_rfl
theorem ze154 : (Tryz.prog.info? 154).map (·.zero) = some (some (.agg #[.int .i64 0, .slice none 0 0, .int .i64 0])) := by kernel_rfl
theorem pl154 (w : World) : ((#[{ name := "id", type := 3, offset := 0, embedded := false, tag := "", pkgPath := "cordwood/disk", byteOffset := 0 }, { name := "b", type := 22, offset := 1, embedded := false, tag := "", pkgPath := "cordwood/disk", byteOffset := 8 }, { name := "synced", type := 3, offset := 2, embedded := false, tag := "", pkgPath := "cordwood/disk", byteOffset := 32 }] : Array Field).mapM (m := Sem) fun f => do pure (f.offset, ← sizeOf f.type)).run Tryz.prog w = .ok #[(0, 1), (1, 1), (2, 1)] w := by kernel_rfl
theorem ze162 : (Tryz.prog.info? 162).map (·.zero) = some (some (.agg #[.pointer none, .int .i64 0, .int .i64 0])) := by kernel_rfl
theorem pl162 (w : World) : ((#[{ name := "s", type := 30, offset := 0, embedded := false, tag := "", pkgPath := "cordwood/call", byteOffset := 0 }, { name := "tries", type := 3, offset := 1, embedded := false, tag := "", pkgPath := "cordwood/call", byteOffset := 8 }, { name := "asked", type := 3, offset := 2, embedded := false, tag := "", pkgPath := "cordwood/call", byteOffset := 16 }] : Array Field).mapM (m := Sem) fun f => do pure (f.offset, ← sizeOf f.type)).run Tryz.prog w = .ok #[(0, 1), (1, 1), (2, 1)] w := by kernel_rfl
theorem ze209 : (Tryz.prog.info? 209).map (·.zero) = some (some (.agg #[.slice none 0 0])) := by kernel_rfl
theorem pl209 (w : World) : ((#[{ name := "l", type := 36, offset := 0, embedded := false, tag := "", pkgPath := "cordwood/epoch", byteOffset := 0 }] : Array Field).mapM (m := Sem) fun f => do pure (f.offset, ← sizeOf f.type)).run Tryz.prog w = .ok #[(0, 1)] w := by kernel_rfl
theorem ze242 : (Tryz.prog.info? 242).map (·.zero) = some (some (.agg #[.slice none 0 0, .int .i64 0, .nilIface])) := by kernel_rfl
theorem pl242 (w : World) : ((#[{ name := "b", type := 22, offset := 0, embedded := false, tag := "", pkgPath := "cordwood/vint", byteOffset := 0 }, { name := "at", type := 3, offset := 1, embedded := false, tag := "", pkgPath := "cordwood/vint", byteOffset := 24 }, { name := "err", type := 27, offset := 2, embedded := false, tag := "", pkgPath := "cordwood/vint", byteOffset := 32 }] : Array Field).mapM (m := Sem) fun f => do pure (f.offset, ← sizeOf f.type)).run Tryz.prog w = .ok #[(0, 1), (1, 1), (2, 1)] w := by kernel_rfl
theorem sz278 : (Tryz.prog.info? 278).map (·.size) = some 1 := by kernel_rfl
theorem ze280 : (Tryz.prog.info? 280).map (·.zero) = some (some (.agg #[.string ByteArray.empty, .map none])) := by kernel_rfl
theorem pl280 (w : World) : ((#[{ name := "name", type := 9, offset := 0, embedded := false, tag := "", pkgPath := "cordwood/store", byteOffset := 0 }, { name := "parts", type := 278, offset := 1, embedded := false, tag := "", pkgPath := "cordwood/store", byteOffset := 16 }] : Array Field).mapM (m := Sem) fun f => do pure (f.offset, ← sizeOf f.type)).run Tryz.prog w = .ok #[(0, 1), (1, 1)] w := by kernel_rfl
theorem en8 : EN Tryz.prog 8 := fun _ _ => by kernel_rfl
theorem en9 : EN Tryz.prog 9 := fun _ _ => by kernel_rfl
theorem en10 : EN Tryz.prog 10 := fun _ _ => by kernel_rfl
theorem en11 : EN Tryz.prog 11 := fun _ _ => by kernel_rfl
theorem en12 : EN Tryz.prog 12 := fun _ _ => by kernel_rfl
theorem en13 : EN Tryz.prog 13 := fun _ _ => by kernel_rfl
theorem en14 : EN Tryz.prog 14 := fun _ _ => by kernel_rfl
theorem en15 : EN Tryz.prog 15 := fun _ _ => by kernel_rfl
theorem en16 : EN Tryz.prog 16 := fun _ _ => by kernel_rfl
theorem en18 : EN Tryz.prog 18 := fun _ _ => by kernel_rfl
theorem en19 : EN Tryz.prog 19 := fun _ _ => by kernel_rfl
theorem en20 : EN Tryz.prog 20 := fun _ _ => by kernel_rfl
theorem en22 : EN Tryz.prog 22 := fun _ _ => by kernel_rfl
theorem en23 : EN Tryz.prog 23 := fun _ _ => by kernel_rfl
theorem en24 : EN Tryz.prog 24 := fun _ _ => by kernel_rfl
theorem en26 : EN Tryz.prog 26 := fun _ _ => by kernel_rfl
theorem en33 : EN Tryz.prog 33 := fun _ _ => by kernel_rfl
theorem en34 : EN Tryz.prog 34 := fun _ _ => by kernel_rfl
theorem en36 : EN Tryz.prog 36 := fun _ _ => by kernel_rfl
theorem en37 : EN Tryz.prog 37 := fun _ _ => by kernel_rfl
theorem en38 : EN Tryz.prog 38 := fun _ _ => by kernel_rfl
theorem en39 : EN Tryz.prog 39 := fun _ _ => by kernel_rfl
theorem en40 : EN Tryz.prog 40 := fun _ _ => by kernel_rfl
theorem en41 : EN Tryz.prog 41 := fun _ _ => by kernel_rfl
theorem en42 : EN Tryz.prog 42 := fun _ _ => by kernel_rfl
theorem en43 : EN Tryz.prog 43 := fun _ _ => by kernel_rfl
theorem en44 : EN Tryz.prog 44 := fun _ _ => by kernel_rfl
theorem en45 : EN Tryz.prog 45 := fun _ _ => by kernel_rfl
theorem en46 : EN Tryz.prog 46 := fun _ _ => by kernel_rfl
theorem en47 : EN Tryz.prog 47 := fun _ _ => by kernel_rfl
theorem en48 : EN Tryz.prog 48 := fun _ _ => by kernel_rfl
theorem en49 : EN Tryz.prog 49 := fun _ _ => by kernel_rfl
theorem en50 : EN Tryz.prog 50 := fun _ _ => by kernel_rfl
theorem en51 : EN Tryz.prog 51 := fun _ _ => by kernel_rfl
theorem en52 : EN Tryz.prog 52 := fun _ _ => by kernel_rfl
theorem en53 : EN Tryz.prog 53 := fun _ _ => by kernel_rfl
theorem en54 : EN Tryz.prog 54 := fun _ _ => by kernel_rfl
theorem en55 : EN Tryz.prog 55 := fun _ _ => by kernel_rfl
theorem en56 : EN Tryz.prog 56 := fun _ _ => by kernel_rfl
theorem en57 : EN Tryz.prog 57 := fun _ _ => by kernel_rfl
theorem en58 : EN Tryz.prog 58 := fun _ _ => by kernel_rfl
theorem en59 : EN Tryz.prog 59 := fun _ _ => by kernel_rfl
theorem en60 : EN Tryz.prog 60 := fun _ _ => by kernel_rfl
theorem en67 : EN Tryz.prog 67 := fun _ _ => by kernel_rfl
theorem en68 : EN Tryz.prog 68 := fun _ _ => by kernel_rfl
theorem en69 : EN Tryz.prog 69 := fun _ _ => by kernel_rfl
theorem en70 : EN Tryz.prog 70 := fun _ _ => by kernel_rfl
theorem en71 : EN Tryz.prog 71 := fun _ _ => by kernel_rfl
theorem en72 : EN Tryz.prog 72 := fun _ _ => by kernel_rfl
theorem en73 : EN Tryz.prog 73 := fun _ _ => by kernel_rfl
theorem en74 : EN Tryz.prog 74 := fun _ _ => by kernel_rfl
theorem en75 : EN Tryz.prog 75 := fun _ _ => by kernel_rfl
theorem en76 : EN Tryz.prog 76 := fun _ _ => by kernel_rfl
theorem en77 : EN Tryz.prog 77 := fun _ _ => by kernel_rfl
theorem en78 : EN Tryz.prog 78 := fun _ _ => by kernel_rfl
theorem en79 : EN Tryz.prog 79 := fun _ _ => by kernel_rfl
theorem en80 : EN Tryz.prog 80 := fun _ _ => by kernel_rfl
theorem en81 : EN Tryz.prog 81 := fun _ _ => by kernel_rfl
theorem en83 : EN Tryz.prog 83 := fun _ _ => by kernel_rfl
theorem en84 : EN Tryz.prog 84 := fun _ _ => by kernel_rfl
theorem en85 : EN Tryz.prog 85 := fun _ _ => by kernel_rfl
theorem en86 : EN Tryz.prog 86 := fun _ _ => by kernel_rfl
theorem en87 : EN Tryz.prog 87 := fun _ _ => by kernel_rfl
theorem en88 : EN Tryz.prog 88 := fun _ _ => by kernel_rfl
theorem en89 : EN Tryz.prog 89 := fun _ _ => by kernel_rfl
theorem en90 : EN Tryz.prog 90 := fun _ _ => by kernel_rfl
theorem en91 : EN Tryz.prog 91 := fun _ _ => by kernel_rfl
theorem en92 : EN Tryz.prog 92 := fun _ _ => by kernel_rfl
theorem en93 : EN Tryz.prog 93 := fun _ _ => by kernel_rfl
theorem en94 : EN Tryz.prog 94 := fun _ _ => by kernel_rfl
theorem en95 : EN Tryz.prog 95 := fun _ _ => by kernel_rfl
theorem en96 : EN Tryz.prog 96 := fun _ _ => by kernel_rfl
theorem en97 : EN Tryz.prog 97 := fun _ _ => by kernel_rfl
theorem en99 : EN Tryz.prog 99 := fun _ _ => by kernel_rfl
theorem en100 : EN Tryz.prog 100 := fun _ _ => by kernel_rfl
theorem en101 : EN Tryz.prog 101 := fun _ _ => by kernel_rfl
theorem en102 : EN Tryz.prog 102 := fun _ _ => by kernel_rfl
theorem en107 : EN Tryz.prog 107 := fun _ _ => by kernel_rfl
theorem en108 : EN Tryz.prog 108 := fun _ _ => by kernel_rfl
theorem en109 : EN Tryz.prog 109 := fun _ _ => by kernel_rfl
theorem en113 : EN Tryz.prog 113 := fun _ _ => by kernel_rfl
theorem zE7 : EN Tryz.prog 114 := fun _ _ => by kernel_rfl
theorem en115 : EN Tryz.prog 115 := fun _ _ => by kernel_rfl
theorem en117 : EN Tryz.prog 117 := fun _ _ => by kernel_rfl
theorem en118 : EN Tryz.prog 118 := fun _ _ => by kernel_rfl
theorem en119 : EN Tryz.prog 119 := fun _ _ => by kernel_rfl
theorem en120 : EN Tryz.prog 120 := fun _ _ => by kernel_rfl
theorem en121 : EN Tryz.prog 121 := fun _ _ => by kernel_rfl
theorem en122 : EN Tryz.prog 122 := fun _ _ => by kernel_rfl
theorem en123 : EN Tryz.prog 123 := fun _ _ => by kernel_rfl
theorem en124 : EN Tryz.prog 124 := fun _ _ => by kernel_rfl
theorem en125 : EN Tryz.prog 125 := fun _ _ => by kernel_rfl
theorem en126 : EN Tryz.prog 126 := fun _ _ => by kernel_rfl
theorem en127 : EN Tryz.prog 127 := fun _ _ => by kernel_rfl
theorem en130 : EN Tryz.prog 130 := fun _ _ => by kernel_rfl
theorem en131 : EN Tryz.prog 131 := fun _ _ => by kernel_rfl
theorem en132 : EN Tryz.prog 132 := fun _ _ => by kernel_rfl
theorem en133 : EN Tryz.prog 133 := fun _ _ => by kernel_rfl
theorem en134 : EN Tryz.prog 134 := fun _ _ => by kernel_rfl
theorem en135 : EN Tryz.prog 135 := fun _ _ => by kernel_rfl
theorem en136 : EN Tryz.prog 136 := fun _ _ => by kernel_rfl
theorem en137 : EN Tryz.prog 137 := fun _ _ => by kernel_rfl
theorem en138 : EN Tryz.prog 138 := fun _ _ => by kernel_rfl
theorem en139 : EN Tryz.prog 139 := fun _ _ => by kernel_rfl
theorem en140 : EN Tryz.prog 140 := fun _ _ => by kernel_rfl
theorem en141 : EN Tryz.prog 141 := fun _ _ => by kernel_rfl
theorem en142 : EN Tryz.prog 142 := fun _ _ => by kernel_rfl
theorem en144 : EN Tryz.prog 144 := fun _ _ => by kernel_rfl
theorem en145 : EN Tryz.prog 145 := fun _ _ => by kernel_rfl
theorem en146 : EN Tryz.prog 146 := fun _ _ => by kernel_rfl
theorem en147 : EN Tryz.prog 147 := fun _ _ => by kernel_rfl
theorem en148 : EN Tryz.prog 148 := fun _ _ => by kernel_rfl
theorem en149 : EN Tryz.prog 149 := fun _ _ => by kernel_rfl
theorem en164 : EN Tryz.prog 164 := fun _ _ => by kernel_rfl
theorem en165 : EN Tryz.prog 165 := fun _ _ => by kernel_rfl
theorem en166 : EN Tryz.prog 166 := fun _ _ => by kernel_rfl
theorem en167 : EN Tryz.prog 167 := fun _ _ => by kernel_rfl
theorem en168 : EN Tryz.prog 168 := fun _ _ => by kernel_rfl
theorem en169 : EN Tryz.prog 169 := fun _ _ => by kernel_rfl
theorem en170 : EN Tryz.prog 170 := fun _ _ => by kernel_rfl
theorem en171 : EN Tryz.prog 171 := fun _ _ => by kernel_rfl
theorem en173 : EN Tryz.prog 173 := fun _ _ => by kernel_rfl
theorem en174 : EN Tryz.prog 174 := fun _ _ => by kernel_rfl
theorem en175 : EN Tryz.prog 175 := fun _ _ => by kernel_rfl
theorem en176 : EN Tryz.prog 176 := fun _ _ => by kernel_rfl
theorem en177 : EN Tryz.prog 177 := fun _ _ => by kernel_rfl
theorem en178 : EN Tryz.prog 178 := fun _ _ => by kernel_rfl
theorem en179 : EN Tryz.prog 179 := fun _ _ => by kernel_rfl
theorem en180 : EN Tryz.prog 180 := fun _ _ => by kernel_rfl
theorem en181 : EN Tryz.prog 181 := fun _ _ => by kernel_rfl
theorem en183 : EN Tryz.prog 183 := fun _ _ => by kernel_rfl
theorem en184 : EN Tryz.prog 184 := fun _ _ => by kernel_rfl
theorem en185 : EN Tryz.prog 185 := fun _ _ => by kernel_rfl
theorem en186 : EN Tryz.prog 186 := fun _ _ => by kernel_rfl
theorem en187 : EN Tryz.prog 187 := fun _ _ => by kernel_rfl
theorem en188 : EN Tryz.prog 188 := fun _ _ => by kernel_rfl
theorem en189 : EN Tryz.prog 189 := fun _ _ => by kernel_rfl
theorem en190 : EN Tryz.prog 190 := fun _ _ => by kernel_rfl
theorem en206 : EN Tryz.prog 206 := fun _ _ => by kernel_rfl
theorem en207 : EN Tryz.prog 207 := fun _ _ => by kernel_rfl
theorem en208 : EN Tryz.prog 208 := fun _ _ => by kernel_rfl
theorem en209 : EN Tryz.prog 209 := fun _ _ => by kernel_rfl
theorem en210 : EN Tryz.prog 210 := fun _ _ => by kernel_rfl
theorem en211 : EN Tryz.prog 211 := fun _ _ => by kernel_rfl
theorem en217 : EN Tryz.prog 217 := fun _ _ => by kernel_rfl
theorem zBk : Tryz.prog.follows .mixedOrders = true := by kernel_rfl
end
section
open Go.RowKit
attribute [local irreducible] zAk
variable {g w : World} {L : List HP} {ad : Nat → Addr}
theorem law_of {f : FuncId} {args : Array Value} (h : Calls Tryz.prog f args w (Ret fun v w' => v = .bool true ∧ Mem w w' [])) : Calls Tryz.prog f args w (BoolNew true w) :=
  h.mono fun _ _ ⟨v, h1, h2, h3⟩ => ⟨by rw [h1, h2], h3.below0⟩
theorem Came.bytes {a : Option Addr} {n c : Nat} {l : List UInt8} (h : zEs w (.slice a n c) (zAn l)) (hb : ∀ b, blk (.slice a n c) = some b → b < w.heap.size) : Came w (.slice a n c) (zAn l) ∧ n = l.length := ⟨⟨h, hb⟩, by have := h.len; simpa [zAn] using this.symm⟩
theorem Came.ints {a : Option Addr} {n c : Nat} {l : List Int} (h : zEs w (.slice a n c) (zCz l)) (hb : ∀ b, blk (.slice a n c) = some b → b < w.heap.size) : Came w (.slice a n c) (zCz l) ∧ n = l.length := ⟨⟨h, hb⟩, by have := h.len; simpa [zCz] using this.symm⟩
theorem zGb (hs : Mem g w L) (s : ByteArray) : Calls Tryz.prog 89 #[.string s] w (Ret fun v w' => v = .bool (zBy s.data.toList) ∧ Mem g w' L) := hs.callsE (valid_any s w)
theorem newSeq_sl {f : FuncId} {args : Array Value} {l : List Value} (hs : Mem g w L) (h : Calls Tryz.prog f args w (NewSeq w l)) : Calls Tryz.prog f args w (Ret fun v w' => ∃ a c, v = .slice a l.length c ∧ Mem g w' (own (.slice a l.length c) l :: L)) :=
  h.mono fun _ w' ⟨v, h1, h2, h3, h4⟩ => by
    obtain ⟨a, n, c, rfl, hn, hr⟩ := id h2; subst hn; exact ⟨_, h1, a, c, rfl, hs.add (F' := fun b => blk (.slice a l.length c) = some b) ⟨h2, fun _ => Iff.rfl⟩ (fun b hb => (h4 b hb).1) (Keeps.of_below h3 _)⟩
theorem zCt (hs : Mem g w L) {v : Value} {l : List UInt8} (h : Rd g L v (zAn l)) (hl : l.length ≤ 1073741824) : Calls Tryz.prog 49 #[v] w (Ret fun v w' => ∃ a c, v = .slice a (zAn l).length c ∧ Mem g w' (own (.slice a (zAn l).length c) (zAn l) :: L)) :=
  newSeq_sl hs (clone_bytes v _ w (h.seq hs) (zCd l) (by simpa [zAn] using hl))
theorem Rd.subB {a : Option Addr} {m c lo hi : Nat} {l : List UInt8} (h : Rd g L (.slice a m c) (zAn l)) (h1 : lo ≤ hi) (h2 : hi ≤ m) : Rd g L (subS a c lo hi) (zAn ((l.take hi).drop lo)) := by
  have := h.sub h1 h2
  simpa [zAn] using this
theorem zAw (b : List UInt8) : (zAn b).length = b.length := by simp [zAn]
theorem u8v_inj {a b : UInt8} (h : ((a.toNat : Nat) : Int) = ((b.toNat : Nat) : Int)) : a = b := UInt8.toNat_inj.1 (by omega)
theorem zGk {l : List UInt8} {k : Nat} {x : UInt8} (h : l[k]? = some x) : (zAn l)[k]? = some (.int .u8 (x.toNat : Nat)) := by simp [zAn, u8v, h]
theorem zFn {l : List Int} {k : Nat} {x : Int} (h : l[k]? = some x) : (zCz l)[k]? = some (.int .i64 x) := by simp [zCz, h]
theorem zG (l : List Int) : (zCz l).length = l.length := by simp [zCz]
theorem Mem.rdOwn {v : Value} {l : List Value} (hs : Mem g w L) (i : Nat) (hi : L[i]? = some (own v l)) : Rd g L v l := Rd.own i hi
theorem zDw (l m : List UInt8) : zAn (l ++ m) = zAn l ++ zAn m := by simp [zAn]
theorem intsL_app (l m : List Int) : zCz (l ++ m) = zCz l ++ zCz m := by simp [zCz]
theorem number_sl (hs : Mem g w L) (n b : Int) (hb : 0 < b ∧ b < 1000) : Calls Tryz.prog 9 #[.int .i64 n, .int .i64 b] w (Ret fun v w' => ∃ r : Nat, (r : Int) < b ∧ v = .int .i64 (r : Nat) ∧ Mem g w' L) := by
  have h1 := Int.tmod_lt_of_pos n hb.1
  have h2 : -b < n.tmod b := by have h3 := Int.natAbs_tmod n b; have h4 := Nat.mod_lt n.natAbs (y := b.natAbs) (by omega); omega
  refine zAh Tryz.func9 rfl rfl ?_
  refine zA4 (zA2 (J4 rfl (zA6 (zA4 (zA2 (J0 rfl (J0 rfl (Qa (run_rem rfl rfl (by omega)) (J4 rfl (zA6 (zA4 (zA4 (zA2 (J0 rfl ?_)))))))))))))); refine Jn rfl rfl (zA6 (zB2 rfl ?_ ?_))
  ·
   intro h10; have g10 := of_decide_eq_true h10; refine zA2 (J0 rfl (J0 rfl (Jo rfl rfl (c := n.tmod b + b) rfl (inI (by omega) (by omega)) (J4 rfl (zA6 (zA4 (zA2 (J0 rfl (J4 rfl (zA6 (zAe (zBi (v := .int .i64 _) rfl rfl ?_)))))))))))); exact ⟨_, rfl, (n.tmod b + b).toNat, by omega, by show Value.int .i64 (n.tmod b + b) = _; congr 1; omega, hs⟩
  ·
   intro h10; have g10 := of_decide_eq_false h10; refine zAd (zA4 (zA2 (J0 rfl (J4 rfl (zA6 (zAe (zBi (v := .int .i64 _) rfl rfl ?_))))))); exact ⟨_, rfl, (n.tmod b).toNat, by omega, by show Value.int .i64 (n.tmod b) = _; congr 1; omega, hs⟩
end
section
open Go.RowKit
attribute [local irreducible] zAk
variable {g w : World} {L M : List HP} {ad : Nat → Addr} {p : Nat}
section
variable {ρ : Env} {dst : Option Tmp} {ty : TypeId} {pos : String} {aft : Array Edge} {x y : Operand} {u : TypeId}
theorem equal_pr (a b : Pr) : (Op.equalIn 10000 46 (.agg (prL a).toArray) (.agg (prL b).toArray)).run Tryz.prog w = .ok (decide (a = b)) w := by
  have hS : Tryz.prog.underlying 46 = some (.struct (Tryz.prog.fieldsOf 46)) := by kernel_rfl
  have hp : Tryz.prog.stoodInHeld 46 = false := by kernel_rfl
  have u3 := uz3; have a3 := Tryz.isAgg3; have z3 := Tryz.sizeOf3; have u2 := uz2; have a2 := Tryz.isAgg2; have z2 := Tryz.sizeOf2; obtain ⟨a1, a2'⟩ := a; obtain ⟨b1, b2'⟩ := b; simp only [prL]; rw [show (10000 : Nat) = 9999 + 1 from rfl, run_equalIn_agg w 9999 46 _ _ hS hp]; simp only [Program.fieldsOf, uz46]
  go_simp
  by_cases h1 : a1 = b1 <;> by_cases h2 : a2' = b2' <;> simp [h1, h2]
theorem equal_ob (a b : Ob) : (Op.equalIn 10000 66 (.agg (obL a).toArray) (.agg (obL b).toArray)).run Tryz.prog w = .ok (decide (a = b)) w := by
  have hS : Tryz.prog.underlying 66 = some (.struct (Tryz.prog.fieldsOf 66)) := by kernel_rfl
  have hp : Tryz.prog.stoodInHeld 66 = false := by kernel_rfl
  have u3 := uz3; have a3 := Tryz.isAgg3; have z3 := Tryz.sizeOf3; have u2 := uz64; have a2 := Tryz.isAgg64; have z2 := Tryz.sizeOf64; have u9 := uz9; have a9 := Tryz.isAgg9; have z9 := Tryz.sizeOf9; obtain ⟨n1, a1, a2'⟩ := a; obtain ⟨n2, b1, b2'⟩ := b; simp only [obL]; rw [show (10000 : Nat) = 9999 + 1 from rfl, run_equalIn_agg w 9999 66 _ _ hS hp]; simp only [Program.fieldsOf, zG2]
  go_simp
  have hn : (n1.toList = n2.toList) ↔ n1 = n2 := by
    rw [ByteArray.toList_eq, ByteArray.toList_eq]
    constructor
    · intro e
      obtain ⟨⟨x⟩⟩ := n1; obtain ⟨⟨y⟩⟩ := n2; have e : x = y := e; rw [e]
    · intro e; rw [e]
  have hz : ((a2' : Int) = (b2' : Int)) ↔ a2' = b2' := by omega
  simp only [hn, hz]
  by_cases h0 : n1 = n2 <;> by_cases h1 : a1 = b1 <;> by_cases h2 : a2' = b2' <;> simp [h0, h1, h2]
theorem run_nePr {a b : Pr} (hx : ev ρ x = .agg (prL a).toArray) (hy : ev ρ y = .agg (prL b).toArray) : (execOp (ev ρ) ⟨dst, .binOp .neq 46 x y u, ty, pos, aft, none⟩).run Tryz.prog w = .ok (.value (.bool (!decide (a = b)))) w := by
  have hg : (eqGuard .neq 46 x y (.agg (prL a).toArray) (.agg (prL b).toArray)).run Tryz.prog w = .ok () w := run_eqGuard_agg w .neq _ x y _ _ (by kernel_rfl); simp only [execOp, hx, hy, Sem.run_bind, hg, run_neq_struct, equal_pr, Result.andThen_ok, Sem.run_pure]
theorem run_neOb {a b : Ob} (hx : ev ρ x = .agg (obL a).toArray) (hy : ev ρ y = .agg (obL b).toArray) : (execOp (ev ρ) ⟨dst, .binOp .neq 66 x y u, ty, pos, aft, none⟩).run Tryz.prog w = .ok (.value (.bool (!decide (a = b)))) w := by
  have hg : (eqGuard .neq 66 x y (.agg (obL a).toArray) (.agg (obL b).toArray)).run Tryz.prog w = .ok () w := run_eqGuard_agg w .neq _ x y _ _ (by kernel_rfl); simp only [execOp, hx, hy, Sem.run_bind, hg, run_neq_struct, equal_ob, Result.andThen_ok, Sem.run_pure]
end
theorem zEy (l : List Pr) : (l.map prL).length = l.length := by simp
theorem zEz (l : List Ob) : (l.map obL).length = l.length := by simp
theorem right_sl (hs : Mem g w L) (n : Int) : Calls Tryz.prog 83 #[.int .i64 n] w (Ret fun v w' => v = .bool (zEu n) ∧ Mem g w' L) := by
  refine zAh Tryz.func83 rfl rfl ?_
  refine zA4 (zA2 (J5 rfl (zA6 (zA4 (zA2 (J0 rfl (Qa (zD5 rfl rfl) (J2 rfl (zB3 (t := _) (d := 5) rfl ?_ ?_)))))))))
  ·
   intro h4; have g4 := of_decide_eq_true h4; exact zAl rfl rfl h4 (J0 rfl (zAl rfl rfl h4 (Qa (zE8 rfl rfl) (Ja rfl h4 rfl (J5 rfl (zA6 (zAe (zBi (v := .bool _) rfl rfl ⟨_, rfl, zDr (by rw [Bool.eq_iff_iff]; simp [zEu]; omega), hs⟩))))))))
  ·
   intro h4; have g4 := of_decide_eq_false h4; exact Qe rfl rfl h4 (Qe rfl rfl h4 (J9 rfl h4 rfl (J5 rfl (zA6 (zAe (zBi (v := .bool _) rfl rfl ⟨_, rfl, zDr (by rw [Bool.eq_iff_iff]; simp [zEu]; omega), hs⟩))))))
theorem prRight_sl (hs : Mem g w L) (q : Pr) : Calls Tryz.prog 125 #[.agg (prL q).toArray] w (Ret fun v w' => v = .bool (prOk q) ∧ Mem g w' L) := by
  obtain ⟨a, b⟩ := q; refine zAh Tryz.func125 rfl rfl ?_
  refine zA4 (zA2 (zBp (v := .agg _) hs rfl rfl ?_)); clear hs; intro b1 w hs
  try simp only [zzs, zzz] at hs
  refine J5 rfl (zA6 (zA4 (zA2 (Jp (o' := 0) uz46 rfl sz3 rfl rfl rfl (Qc uz3 rfl hs 0 rfl rfl (Qa (zD5 rfl rfl) (J2 rfl (zB3 (t := _) (d := 6) rfl ?_ ?_))))))))
  ·
   intro h5; have g5 := of_decide_eq_true h5; refine zAl rfl rfl h5 (Jp (o' := 0) uz46 rfl sz3 rfl rfl rfl (zAl rfl rfl h5 (Qc uz3 rfl hs 0 rfl rfl (zAl rfl rfl h5 (Qa (zE8 rfl rfl) (Ja rfl h5 rfl (J2 rfl (zB3 (t := _) (d := 11) rfl ?_ ?_))))))))
   ·
    intro h9; have g9 := of_decide_eq_true h9; refine zAl rfl rfl h9 (Jp (o' := 1) uz46 rfl sz2 rfl rfl rfl (zAl rfl rfl h9 (Qc uz2 rfl hs 0 rfl rfl (zAl rfl rfl h9 (Qa (zD5 rfl rfl) (Ja rfl h9 rfl (J2 rfl (zB3 (t := _) (d := 16) rfl ?_ ?_))))))))
    ·
     intro h14; have g14 := of_decide_eq_true h14; refine zAl rfl rfl h14 (Jp (o' := 1) uz46 rfl sz2 rfl rfl rfl (zAl rfl rfl h14 (Qc uz2 rfl hs 0 rfl rfl (zAl rfl rfl h14 (Qa (zE8 rfl rfl) (Ja rfl h14 rfl (J5 rfl (zA6 (zAe (zBi (v := .bool _) rfl rfl ?_)))))))))); exact ⟨_, rfl, zDr (by rw [Bool.eq_iff_iff]; simp [prOk, rightE, zEu]; omega), hs.tail⟩
    ·
     intro h14; have g14 := of_decide_eq_false h14; exact Qe rfl rfl h14 (Qe rfl rfl h14 (Qe rfl rfl h14 (J9 rfl h14 rfl (J5 rfl (zA6 (zAe (zBi (v := .bool _) rfl rfl ⟨_, rfl, zDr (by rw [Bool.eq_iff_iff]; simp [prOk, rightE, zEu]; omega), hs.tail⟩)))))))
   ·
    intro h9; have g9 := of_decide_eq_false h9; refine Qe rfl rfl h9 (Qe rfl rfl h9 (Qe rfl rfl h9 (J9 rfl h9 rfl (J2 rfl (Qe rfl rfl rfl (Qe rfl rfl rfl (Qe rfl rfl rfl (J9 rfl rfl rfl (J5 rfl (zA6 ?_)))))))))); exact zAe (zBi (v := .bool _) rfl rfl ⟨_, rfl, zDr (by rw [Bool.eq_iff_iff]; simp [prOk, rightE, zEu]; omega), hs.tail⟩)
  ·
   intro h5; have g5 := of_decide_eq_false h5; refine Qe rfl rfl h5 (Qe rfl rfl h5 (Qe rfl rfl h5 (J9 rfl h5 rfl (J2 rfl (Qe rfl rfl rfl (Qe rfl rfl rfl (Qe rfl rfl rfl (J9 rfl rfl rfl (J2 rfl (Qe rfl rfl rfl ?_)))))))))); refine Qe rfl rfl rfl (Qe rfl rfl rfl (J9 rfl rfl rfl (J5 rfl (zA6 (zAe (zBi (v := .bool _) rfl rfl ?_))))))
   exact ⟨_, rfl, zDr (by rw [Bool.eq_iff_iff]; simp [prOk, rightE, zEu]; omega), hs.tail⟩
theorem prBad_sl (hs : Mem g w L) (q : Pr) : Calls Tryz.prog 124 #[.agg (prL q).toArray] w (Ret fun v w' => v = .bool (!prOk q) ∧ Mem g w' L) := by
  refine zAh Tryz.func124 rfl rfl ?_
  refine zA4 (zA2 (zBp (v := .agg _) hs rfl rfl ?_)); clear hs; intro b1 w hs
  try simp only [zzs, zzz] at hs
  refine J5 rfl (zA6 (zA4 (zA2 (Qa (zBd hs 0 rfl uz46 sz46 rfl) (Qg en125 (prRight_sl hs q) ?_))))); clear hs; rintro _ w ⟨rfl, hs⟩; exact Jr rfl (J5 rfl (zA6 (zAe (zBi (v := .bool _) rfl rfl ⟨_, rfl, rfl, hs.tail⟩))))
theorem idxP_sl (hs : Mem g w L) {a : Option Addr} {n c : Nat} {l : List Pr} (hr : RdK g L 2 (.slice a n c) (l.map prL)) (hn : n = l.length) (hlen : l.length ≤ 1000000) : Calls Tryz.prog 170 #[.slice a n c, .func (.func 124) #[] #[]] w (Ret fun v w' => ∃ r : Int, (0 ≤ r ↔ l.all prOk = false) ∧ v = .int .i64 r ∧ Mem g w' L) := by
  subst hn; refine zAh Tryz.func170 rfl rfl ?_
  refine zA4 (zA2 (J4 rfl (zA6 (zA4 (zA4 (zA2 (J7 rfl (Js zE rfl (J0 rfl (zA6 (zAp (zBs (X := Nat) [4, 5, 8, 9, 10, 11, 12, 13, 14, 15, 16, 17, 18] (fun k => [(8, .int .i64 (k : Nat))]) (fun k w => k ≤ l.length ∧ (l.take k).all prOk = true ∧ Mem g w L) (fun k => l.length - k) (0) ?_ ?_ ?_))))))))))))
  · exact ⟨rfl, trivial⟩
  · exact ⟨Nat.zero_le _, rfl, hs⟩
  clear hs; rintro x ξ w hI; obtain ⟨hk, hq, hs⟩ := hI; refine zA4 (zA2 (Jn rfl rfl (zA6 (zA4 (zB2 rfl ?_ ?_)))))
  ·
   intro h9; have g9 := of_decide_eq_true h9; obtain ⟨y, hy⟩ : ∃ y, l[x]? = some y := ⟨_, List.getElem?_eq_getElem (by omega)⟩; obtain ⟨b1, o1, rfl⟩ := hr.at hs (by rw [zEy]; omega); refine zAd (zA4 (zAp (zA4 (zA2 (J0 rfl (J4 rfl (zA6 (zA4 (zA2 (Jm (v := .func _ _ _) rfl (J7 rfl (J0 rfl (Qa (zAy zE sz46 rfl rfl rfl (by omega) rfl) ?_))))))))))))); refine Qa (zDa (cs := prL y) uz46 sz46 rfl (fun j v hj => hr.cell hs (zEh hy) hj)) ?_
   refine zGv rfl (cap := #[]) en124 rfl (prBad_sl hs y) ?_; clear hs; rintro _ w ⟨rfl, hs⟩; refine zA6 (zB2 rfl ?_ ?_)
   ·
    intro h16; refine zA4 (zA2 (J0 rfl (J4 rfl (zA6 (zAe (zBi (v := .int .i64 _) rfl rfl ?_)))))); exact ⟨_, rfl, (x : Nat), ⟨fun _ => Bool.eq_false_iff.2 (fun h => absurd ((List.all_eq_true.1 h y (List.mem_of_getElem? hy)).symm.trans (zFc h16)) (by decide)), fun _ => by omega⟩, rfl, hs⟩
   ·
    intro h16; refine zAd (zA2 (Jo rfl rfl rfl (inI (by omega) (by omega)) (J0 rfl (zA6 ?_)))); exact ⟨x + 1, by omega, ⟨by omega, by rw [List.take_add_one, hy]; simp [hq, zEr h16], hs⟩, ⟨rfl, trivial⟩, by repeat (first | exact Out.mix _ _ _ | refine Out.updo rfl ?_ | refine Out.upd rfl ?_ | refine Out.mixIn rfl ?_)⟩
  ·
   intro h9; have g9 := of_decide_eq_false h9; refine zBm rfl (zA4 (zA2 (J4 rfl (zA6 (zAe (zBi (v := .int .i64 _) rfl rfl ?_))))))
   have e : x = l.length := by omega
   rw [e, List.take_length] at hq; exact ⟨_, rfl, -1, ⟨fun h => by omega, fun h => by rw [hq] at h; cases h⟩, rfl, hs⟩
theorem conP_sl (hs : Mem g w L) {a : Option Addr} {n c : Nat} {l : List Pr} (hr : RdK g L 2 (.slice a n c) (l.map prL)) (hn : n = l.length) (hlen : l.length ≤ 1000000) : Calls Tryz.prog 123 #[.slice a n c, .func (.func 124) #[] #[]] w (Ret fun v w' => v = .bool (!l.all prOk) ∧ Mem g w' L) := by
  refine zAh Tryz.func123 rfl rfl ?_
  refine zA4 (zA2 (J5 rfl (zA6 (zA4 (zA2 (J7 rfl (Jm (v := .func _ _ _) rfl (Qg en170 (idxP_sl hs hr hn hlen) ?_)))))))); clear hs; rintro _ w ⟨r, hr2, rfl, hs⟩; refine Qa (zD5 rfl rfl) (J5 rfl (zA6 (zAe (zBi (v := .bool _) rfl rfl ?_)))); exact ⟨_, rfl, zDr (by cases h : l.all prOk; exact decide_eq_true (hr2.2 h); exact decide_eq_false (fun h2 => by rw [h] at hr2; exact absurd (hr2.1 h2) (by decide))), hs⟩
theorem clonePr_sl (hs : Mem g w L) {a : Option Addr} {n c : Nat} {l : List Pr} (hr : RdK g L 2 (.slice a n c) (l.map prL)) (hn : n = l.length) (hlen : l.length ≤ 1000000) : Calls Tryz.prog 86 #[.slice a n c] w (Ret fun v w' => ∃ s : SA, v = .slice s.1 l.length s.2 ∧ Mem g w' (zE0 2 (.slice s.1 l.length s.2) (l.map prL) :: L)) := by
  subst hn
  rcases Nat.eq_zero_or_pos l.length with h0 | h0
  · obtain rfl : l = [] := List.eq_nil_of_length_eq_zero h0
    cases a with
    | none =>
      refine zAh Tryz.func86 rfl rfl ?_
      refine zA4 (zA2 (Jb rfl (zA6 (zA4 (zA4 (zA2 (J7 rfl (Qa (run_eqsn zE rfl rfl) (zA6 (zBc rfl (rfl) (zA4 (zA2 (Jb rfl ?_))))))))))))); exact zA6 (zAe (zBi (v := .slice _ _ _) rfl rfl ⟨_, rfl, (none, 0), rfl, hs.addE (rowK_nil 2 _)⟩))
    | some a =>
      refine zAh Tryz.func86 rfl rfl ?_
      refine zA4 (zA2 (Jb rfl (zA6 (zA4 (zA4 (zA2 (J7 rfl (Qa (run_eqsn zE rfl rfl) (zA6 (zAz rfl (rfl) (zAd (zA4 (zA2 ?_))))))))))))); refine zGa (k := 2) hs rfl zE in46 ?_; clear hs; intro b5 w hs; exact J7 rfl (lw_appendRows0 rfl zE in46 rfl rfl ((hr.cons _ hs).src zE (by decide) (prL_rows [])) (Jb rfl (zA6 (zAe (zBi (v := .slice _ _ _) rfl rfl ⟨_, rfl, (some ⟨b5, 0, none⟩, 0), rfl, hs⟩)))))
  · obtain ⟨b1, o1, rfl⟩ := hr.at hs (by rw [zEy]; omega)
    refine zAh Tryz.func86 rfl rfl ?_
    refine zA4 (zA2 (Jb rfl (zA6 (zA4 (zA4 (zA2 (J7 rfl (Qa (run_eqsn zE rfl rfl) (zA6 (zAz rfl (rfl) (zAd (zA4 (zA2 ?_))))))))))))); refine zGa (k := 2) hs rfl zE in46 ?_; clear hs; intro b5 w hs; refine J7 rfl (lw_appendRows hs rfl 0 rfl (news := l.map prL) (by rw [zEy]; omega) zE in46 rfl (prL_rows l) rfl rfl ((hr.cons _ hs).src zE (by decide) (prL_rows l)) (by simp; omega) (by simp; omega) ?_); clear hs; intro a7 c7 w hs
    simp only [zzs, zzz, List.length_nil, zEy, Nat.zero_add, List.nil_append] at hs ⊢; exact Jb rfl (zA6 (zAe (zBi (v := .slice _ _ _) rfl rfl ⟨_, rfl, (a7, c7), rfl, hs⟩)))
end
section
open Go.RowKit
attribute [local irreducible] zAk
variable {g w : World} {L M : List HP} {ad : Nat → Addr} {p : Nat}
theorem RdK.take {k n c hi : Nat} {a : Option Addr} {rows : List (List Value)} (h : RdK g L k (.slice a n c) rows) (h2 : hi ≤ n) : RdK g L k (.slice a hi c) (rows.take hi) := fun w hs => by
  obtain ⟨a', n', c', hv, hn, hnc, h⟩ := h w hs
  cases hv
  refine ⟨_, _, _, rfl, by rw [List.length_take]; omega, by omega, ?_⟩
  rcases h with rfl | ⟨b, off, rfl, hb, h⟩
  · exact .inl (by simp)
  · refine .inr ⟨b, off, rfl, hb, fun q row hq j v hj => h q row ?_ j v hj⟩
    rw [List.getElem?_take] at hq
    split at hq
    · exact hq
    · cases hq
theorem cloneOb_sl (hs : Mem g w L) {a : Option Addr} {n c : Nat} {l : List Ob} (hr : RdK g L 3 (.slice a n c) (l.map obL)) (hn : n = l.length) (hlen : l.length ≤ 1000000) : Calls Tryz.prog 87 #[.slice a n c] w (Ret fun v w' => ∃ s : SA, v = .slice s.1 l.length s.2 ∧ Mem g w' (zE0 3 (.slice s.1 l.length s.2) (l.map obL) :: L)) := by
  subst hn
  rcases Nat.eq_zero_or_pos l.length with h0 | h0
  · obtain rfl : l = [] := List.eq_nil_of_length_eq_zero h0
    cases a with
    | none =>
      refine zAh Tryz.func87 rfl rfl ?_
      refine zA4 (zA2 (Jb rfl (zA6 (zA4 (zA4 (zA2 (J7 rfl (Qa (run_eqsn zD rfl rfl) (zA6 (zBc rfl (rfl) (zA4 (zA2 (Jb rfl ?_))))))))))))); exact zA6 (zAe (zBi (v := .slice _ _ _) rfl rfl ⟨_, rfl, (none, 0), rfl, hs.addE (rowK_nil 3 _)⟩))
    | some a =>
      refine zAh Tryz.func87 rfl rfl ?_
      refine zA4 (zA2 (Jb rfl (zA6 (zA4 (zA4 (zA2 (J7 rfl (Qa (run_eqsn zD rfl rfl) (zA6 (zAz rfl (rfl) (zAd (zA4 (zA2 ?_))))))))))))); refine zGa (k := 3) hs rfl zD in66 ?_; clear hs; intro b5 w hs; exact J7 rfl (lw_appendRows0 rfl zD in66 rfl rfl ((hr.cons _ hs).src zD (by decide) (obL_rows [])) (Jb rfl (zA6 (zAe (zBi (v := .slice _ _ _) rfl rfl ⟨_, rfl, (some ⟨b5, 0, none⟩, 0), rfl, hs⟩)))))
  · obtain ⟨b1, o1, rfl⟩ := hr.at hs (by rw [zEz]; omega)
    refine zAh Tryz.func87 rfl rfl ?_
    refine zA4 (zA2 (Jb rfl (zA6 (zA4 (zA4 (zA2 (J7 rfl (Qa (run_eqsn zD rfl rfl) (zA6 (zAz rfl (rfl) (zAd (zA4 (zA2 ?_))))))))))))); refine zGa (k := 3) hs rfl zD in66 ?_; clear hs; intro b5 w hs; refine J7 rfl (lw_appendRows hs rfl 0 rfl (news := l.map obL) (by rw [zEz]; omega) zD in66 rfl (obL_rows l) rfl rfl ((hr.cons _ hs).src zD (by decide) (obL_rows l)) (by simp; omega) (by simp; omega) ?_); clear hs; intro a7 c7 w hs
    simp only [zzs, zzz, List.length_nil, zEz, Nat.zero_add, List.nil_append] at hs ⊢; exact Jb rfl (zA6 (zAe (zBi (v := .slice _ _ _) rfl rfl ⟨_, rfl, (a7, c7), rfl, hs⟩)))
theorem eqPr_sl (hs : Mem g w L) {a b : Option Addr} {n m c d : Nat} {la lb : List Pr} (ha : RdK g L 2 (.slice a n c) (la.map prL)) (hb : RdK g L 2 (.slice b m d) (lb.map prL)) (hn : n = la.length) (hm : m = lb.length) (hlen : la.length ≤ 1000000) :
    Calls Tryz.prog 107 #[.slice a n c, .slice b m d] w (Ret fun v w' => v = .bool (decide (la = lb)) ∧ Mem g w' L) := by
  subst hn hm; refine zAh Tryz.func107 rfl rfl ?_
  refine zA4 (zA2 (J5 rfl (zA6 (zA4 (zA4 (zA2 (J7 rfl (Js zE rfl (J7 rfl (Js zE rfl (Qa (zDy rfl rfl) (zA6 ?_)))))))))))); refine zB2 rfl ?_ ?_
  ·
   intro h10; have g10 := zFj h10; exact zA4 (zA2 (J5 rfl (zA6 (zAe (zBi (v := .bool _) rfl rfl ⟨_, rfl, zDr (by rw [decide_eq_false (fun e => g10 (by rw [e]))]), hs⟩)))))
  ·
   intro h10; have g10 := zFi h10; refine zAd (zA4 (zA4 (zA2 (J7 rfl (Js zE rfl (J0 rfl (zA6 (zAp (zBs (X := Nat) [4, 5, 13, 14, 15, 16, 17, 18, 19, 20, 21, 22, 23, 24, 25] (fun k => [(13, .int .i64 (k : Nat))]) (fun k w => k ≤ la.length ∧ la.take k = lb.take k ∧ Mem g w L) (fun k => la.length - k) (0) ?_ ?_ ?_)))))))))
   · exact ⟨rfl, trivial⟩
   · exact ⟨Nat.zero_le _, rfl, hs⟩
   clear hs; rintro x ξ w hI; obtain ⟨hk, hq, hs⟩ := hI; refine zA4 (zA2 (Jn rfl rfl (zA6 (zA4 (zB2 rfl ?_ ?_)))))
   ·
    intro h14; have g14 := of_decide_eq_true h14; obtain ⟨xa, hxa⟩ : ∃ xa, la[x]? = some xa := ⟨la[x]'(by omega), List.getElem?_eq_getElem _⟩; obtain ⟨xb, hxb⟩ : ∃ xb, lb[x]? = some xb := ⟨lb[x]'(by omega), List.getElem?_eq_getElem _⟩; obtain ⟨b1, o1, rfl⟩ := ha.at hs (by rw [zEy]; omega); obtain ⟨b2, o2, rfl⟩ := hb.at hs (by rw [zEy]; omega); refine zAd (zA4 (zAp (zA4 (zA2 (J0 rfl (J4 rfl (zA6 (zA4 (zAq zBk hs ?_))))))))); intro w tr hK; replace hs := tr _ hs; clear tr; refine Q3 0 rfl rfl hK ?_
    refine Q2 1 rfl rfl hK (Qb 2 rfl (fun w hs => zAy zE sz46 rfl rfl rfl (by omega) rfl) hK (Qb 3 rfl (fun w hs => zDa (cs := prL xa) uz46 sz46 rfl (fun j v hj => ha.cell hs (zEh hxa) hj)) hK (Q3 4 rfl rfl hK (Q2 5 rfl rfl hK (Qb 6 rfl (fun w hs => zAy zE sz46 rfl rfl rfl (by omega) rfl) hK (Qb 7 rfl (fun w hs => zDa (cs := prL xb) uz46 sz46 rfl (fun j v hj => hb.cell hs (zEh hxb) hj)) hK ?_))))))
    refine @zFs _ _ _ _ _ _ _ _ _ _ _ _ _ _ 8 _ rfl (by kernel_rfl) (by kernel_rfl) (by kernel_rfl) rfl (fun w hs => run_nePr (a := xa) (b := xb) rfl rfl) hK (zAs (by kernel_rfl) ?_); clear hK; refine zB2 rfl ?_ ?_
    ·
     intro h24; refine zA4 (zA2 (J5 rfl (zA6 (zAe (zBi (v := .bool _) rfl rfl ?_))))); exact ⟨_, rfl, zDr (by rw [decide_eq_false (fun e => by subst e; rw [hxa] at hxb; cases hxb; simp at h24)]), hs⟩
    ·
     intro h24; refine zAd (zA2 (Jo rfl rfl rfl (inI (by omega) (by omega)) (J0 rfl (zA6 ?_)))); exact ⟨x + 1, by omega, ⟨by omega, by rw [List.take_add_one, List.take_add_one, hxa, hxb, hq, of_decide_eq_true (zEr h24)], hs⟩, ⟨rfl, trivial⟩, by repeat (first | exact Out.mix _ _ _ | refine Out.updo rfl ?_ | refine Out.upd rfl ?_ | refine Out.mixIn rfl ?_)⟩
   ·
    intro h14; have g14 := of_decide_eq_false h14; refine zBm rfl (zA4 (zA2 (J5 rfl (zA6 (zAe (zBi (v := .bool _) rfl rfl ?_))))))
    have h1 : x = la.length := by omega
    rw [h1, List.take_of_length_le (Nat.le_refl _), List.take_of_length_le (by omega)] at hq; exact ⟨_, rfl, zDr (decide_eq_true hq).symm, hs⟩
theorem eqOb_sl (hs : Mem g w L) {a b : Option Addr} {n m c d : Nat} {la lb : List Ob} (ha : RdK g L 3 (.slice a n c) (la.map obL)) (hb : RdK g L 3 (.slice b m d) (lb.map obL)) (hn : n = la.length) (hm : m = lb.length) (hlen : la.length ≤ 1000000) :
    Calls Tryz.prog 108 #[.slice a n c, .slice b m d] w (Ret fun v w' => v = .bool (decide (la = lb)) ∧ Mem g w' L) := by
  subst hn hm; refine zAh Tryz.func108 rfl rfl ?_
  refine zA4 (zA2 (J5 rfl (zA6 (zA4 (zA4 (zA2 (J7 rfl (Js zD rfl (J7 rfl (Js zD rfl (Qa (zDy rfl rfl) (zA6 ?_)))))))))))); refine zB2 rfl ?_ ?_
  ·
   intro h10; have g10 := zFj h10; exact zA4 (zA2 (J5 rfl (zA6 (zAe (zBi (v := .bool _) rfl rfl ⟨_, rfl, zDr (by rw [decide_eq_false (fun e => g10 (by rw [e]))]), hs⟩)))))
  ·
   intro h10; have g10 := zFi h10; refine zAd (zA4 (zA4 (zA2 (J7 rfl (Js zD rfl (J0 rfl (zA6 (zAp (zBs (X := Nat) [4, 5, 13, 14, 15, 16, 17, 18, 19, 20, 21, 22, 23, 24, 25] (fun k => [(13, .int .i64 (k : Nat))]) (fun k w => k ≤ la.length ∧ la.take k = lb.take k ∧ Mem g w L) (fun k => la.length - k) (0) ?_ ?_ ?_)))))))))
   · exact ⟨rfl, trivial⟩
   · exact ⟨Nat.zero_le _, rfl, hs⟩
   clear hs; rintro x ξ w hI; obtain ⟨hk, hq, hs⟩ := hI; refine zA4 (zA2 (Jn rfl rfl (zA6 (zA4 (zB2 rfl ?_ ?_)))))
   ·
    intro h14; have g14 := of_decide_eq_true h14; obtain ⟨xa, hxa⟩ : ∃ xa, la[x]? = some xa := ⟨la[x]'(by omega), List.getElem?_eq_getElem _⟩; obtain ⟨xb, hxb⟩ : ∃ xb, lb[x]? = some xb := ⟨lb[x]'(by omega), List.getElem?_eq_getElem _⟩; obtain ⟨b1, o1, rfl⟩ := ha.at hs (by rw [zEz]; omega); obtain ⟨b2, o2, rfl⟩ := hb.at hs (by rw [zEz]; omega); refine zAd (zA4 (zAp (zA4 (zA2 (J0 rfl (J4 rfl (zA6 (zA4 (zAq zBk hs ?_))))))))); intro w tr hK; replace hs := tr _ hs; clear tr; refine Q3 0 rfl rfl hK ?_
    refine Q2 1 rfl rfl hK (Qb 2 rfl (fun w hs => zAy zD sz66 rfl rfl rfl (by omega) rfl) hK (Qb 3 rfl (fun w hs => zDa (cs := obL xa) zG2 sz66 rfl (fun j v hj => ha.cell hs (zG9 hxa) hj)) hK (Q3 4 rfl rfl hK (Q2 5 rfl rfl hK (Qb 6 rfl (fun w hs => zAy zD sz66 rfl rfl rfl (by omega) rfl) hK (Qb 7 rfl (fun w hs => zDa (cs := obL xb) zG2 sz66 rfl (fun j v hj => hb.cell hs (zG9 hxb) hj)) hK ?_))))))
    refine @zFs _ _ _ _ _ _ _ _ _ _ _ _ _ _ 8 _ rfl (by kernel_rfl) (by kernel_rfl) (by kernel_rfl) rfl (fun w hs => run_neOb (a := xa) (b := xb) rfl rfl) hK (zAs (by kernel_rfl) ?_); clear hK; refine zB2 rfl ?_ ?_
    ·
     intro h24; refine zA4 (zA2 (J5 rfl (zA6 (zAe (zBi (v := .bool _) rfl rfl ?_))))); exact ⟨_, rfl, zDr (by rw [decide_eq_false (fun e => by subst e; rw [hxa] at hxb; cases hxb; simp at h24)]), hs⟩
    ·
     intro h24; refine zAd (zA2 (Jo rfl rfl rfl (inI (by omega) (by omega)) (J0 rfl (zA6 ?_)))); exact ⟨x + 1, by omega, ⟨by omega, by rw [List.take_add_one, List.take_add_one, hxa, hxb, hq, of_decide_eq_true (zEr h24)], hs⟩, ⟨rfl, trivial⟩, by repeat (first | exact Out.mix _ _ _ | refine Out.updo rfl ?_ | refine Out.upd rfl ?_ | refine Out.mixIn rfl ?_)⟩
   ·
    intro h14; have g14 := of_decide_eq_false h14; refine zBm rfl (zA4 (zA2 (J5 rfl (zA6 (zAe (zBi (v := .bool _) rfl rfl ?_))))))
    have h1 : x = la.length := by omega
    rw [h1, List.take_of_length_le (Nat.le_refl _), List.take_of_length_le (by omega)] at hq; exact ⟨_, rfl, zDr (decide_eq_true hq).symm, hs⟩
theorem sameNm_sl {o : Ob} {bo : Nat} {T : TypeId} (hs : Mem g w (cells bo (obL o) T :: L)) (y : Ob) : Calls Tryz.prog 127 #[.agg (obL y).toArray, .pointer (some ⟨bo, 0, none⟩)] w (Ret fun v w' => v = .bool (decide (y.1 = o.1)) ∧ Mem g w' (cells bo (obL o) T :: L)) := by
  refine zAh Tryz.func127 rfl rfl ?_
  refine zA4 (zA2 (zBp (v := .agg _) hs rfl rfl ?_)); clear hs; intro b2 w hs
  try simp only [zzs, zzz] at hs
  refine J5 rfl (zA6 (zA4 (zA2 (Jp (o' := 0) zG2 rfl sz9 rfl rfl rfl (Qc uz9 rfl hs 0 rfl rfl (Jp (o' := 0) zG2 rfl sz9 rfl rfl rfl (Qc uz9 rfl hs 1 rfl rfl (Qa (run_eqs rfl rfl) (J5 rfl (zA6 (zAe (zBi (v := .bool _) rfl rfl ?_)))))))))))); exact ⟨_, rfl, rfl, hs.tail⟩
theorem idxO_sl {o : Ob} {bo : Nat} {T : TypeId} (hs : Mem g w (cells bo (obL o) T :: L)) {a : Option Addr} {n c : Nat} {l : List Ob} (hr : RdK g (cells bo (obL o) T :: L) 3 (.slice a n c) (l.map obL)) (hn : n = l.length) (hlen : l.length ≤ 1000000) : Calls Tryz.prog 171 #[.slice a n c, .func (.func 127) #[] #[.pointer (some ⟨bo, 0, none⟩)]] w (Ret fun v w' => ∃ r : Int, (0 ≤ r ↔ (l.any fun y => decide (y.1 = o.1)) = true) ∧ v = .int .i64 r ∧ Mem g w' (cells bo (obL o) T :: L)) := by
  subst hn; refine zAh Tryz.func171 rfl rfl ?_
  refine zA4 (zA2 (J4 rfl (zA6 (zA4 (zA4 (zA2 (J7 rfl (Js zD rfl (J0 rfl (zA6 (zAp (zBs (X := Nat) [4, 5, 8, 9, 10, 11, 12, 13, 14, 15, 16, 17, 18] (fun k => [(8, .int .i64 (k : Nat))]) (fun k w => k ≤ l.length ∧ ((l.take k).any fun y => decide (y.1 = o.1)) = false ∧ Mem g w (cells bo (obL o) T :: L)) (fun k => l.length - k) (0) ?_ ?_ ?_))))))))))))
  · exact ⟨rfl, trivial⟩
  · exact ⟨Nat.zero_le _, rfl, hs⟩
  clear hs; rintro x ξ w hI; obtain ⟨hk, hq, hs⟩ := hI; refine zA4 (zA2 (Jn rfl rfl (zA6 (zA4 (zB2 rfl ?_ ?_)))))
  ·
   intro h9; have g9 := of_decide_eq_true h9; obtain ⟨y, hy⟩ : ∃ y, l[x]? = some y := ⟨_, List.getElem?_eq_getElem (by omega)⟩; obtain ⟨b1, o1, rfl⟩ := hr.at hs (by rw [zEz]; omega); refine zAd (zA4 (zAp (zA4 (zA2 (J0 rfl (J4 rfl (zA6 (zA4 (zA2 (Jm (v := .func _ _ _) rfl (J7 rfl (J0 rfl (Qa (zAy zD sz66 rfl rfl rfl (by omega) rfl) ?_))))))))))))); refine Qa (zDa (cs := obL y) zG2 sz66 rfl (fun j v hj => hr.cell hs (zG9 hy) hj)) ?_
   refine zGv rfl (cap := #[.pointer (some ⟨bo, 0, none⟩)]) en127 rfl (sameNm_sl hs y) ?_; clear hs; rintro _ w ⟨rfl, hs⟩; refine zA6 (zB2 rfl ?_ ?_)
   ·
    intro h16; refine zA4 (zA2 (J0 rfl (J4 rfl (zA6 (zAe (zBi (v := .int .i64 _) rfl rfl ?_)))))); exact ⟨_, rfl, (x : Nat), ⟨fun _ => List.any_eq_true.2 ⟨y, List.mem_of_getElem? hy, h16⟩, fun _ => by omega⟩, rfl, hs⟩
   ·
    intro h16; refine zAd (zA2 (Jo rfl rfl rfl (inI (by omega) (by omega)) (J0 rfl (zA6 ?_)))); exact ⟨x + 1, by omega, ⟨by omega, by rw [List.take_add_one, hy, List.any_append, hq]; simpa using h16, hs⟩, ⟨rfl, trivial⟩, by repeat (first | exact Out.mix _ _ _ | refine Out.updo rfl ?_ | refine Out.upd rfl ?_ | refine Out.mixIn rfl ?_)⟩
  ·
   intro h9; have g9 := of_decide_eq_false h9; refine zBm rfl (zA4 (zA2 (J4 rfl (zA6 (zAe (zBi (v := .int .i64 _) rfl rfl ?_))))))
   have e : x = l.length := by omega
   rw [e, List.take_length] at hq; exact ⟨_, rfl, -1, ⟨fun h => by omega, fun h => by rw [hq] at h; cases h⟩, rfl, hs⟩
theorem conO_sl {o : Ob} {bo : Nat} {T : TypeId} (hs : Mem g w (cells bo (obL o) T :: L)) {a : Option Addr} {n c : Nat} {l : List Ob} (hr : RdK g (cells bo (obL o) T :: L) 3 (.slice a n c) (l.map obL)) (hn : n = l.length) (hlen : l.length ≤ 1000000) : Calls Tryz.prog 126 #[.slice a n c, .func (.func 127) #[] #[.pointer (some ⟨bo, 0, none⟩)]] w (Ret fun v w' => v = .bool (l.any fun y => decide (y.1 = o.1)) ∧ Mem g w' (cells bo (obL o) T :: L)) := by
  refine zAh Tryz.func126 rfl rfl ?_
  refine zA4 (zA2 (J5 rfl (zA6 (zA4 (zA2 (J7 rfl (Jm (v := .func _ _ _) rfl (Qg en171 (idxO_sl hs hr hn hlen) ?_)))))))); clear hs; rintro _ w ⟨r, hr2, rfl, hs⟩; refine Qa (zD5 rfl rfl) (J5 rfl (zA6 (zAe (zBi (v := .bool _) rfl rfl ?_)))); exact ⟨_, rfl, zDr (by cases h : (l.any fun y => decide (y.1 = o.1)); exact decide_eq_false (fun h2 => by rw [h] at hr2; exact absurd (hr2.1 h2) (by decide)); exact decide_eq_true (hr2.2 h)), hs⟩
end
section
open Go.RowKit
attribute [local irreducible] zAk
variable {g w : World} {L M : List HP} {ad : Nat → Addr} {p : Nat}
def viewCodes : List Nat := [103, 104, 105, 106, 112, 113]
abbrev ErrV (ad : Nat → Addr) (g : World) : Prop := Errs viewCodes ad g.heap.size g
theorem risAt_eq {l : List Pr} {i : Nat} {a b : Pr} (ha : l[i - 1]? = some a) (hb : l[i]? = some b) : risAt l i = (decide (a.1 < b.1) && decide (a.2 < b.2)) := by
  simp only [risAt, List.getD_eq_getElem?_getD, ha, hb, Option.getD_some]
theorem epNew_sl (hE : ErrV ad g) (hs : Mem g w L) {a : Option Addr} {n c : Nat} {l : List Pr} (hr : RdK g L 2 (.slice a n c) (l.map prL)) (hn : n = l.length) : Calls Tryz.prog 84 #[.slice a n c] w (Ret fun v w' => ∃ q, v = .tuple #[.pointer q, zAk ad (epF l)] ∧ Mem g w' L) := by
  subst hn; refine zAh Tryz.func84 rfl rfl ?_
  refine zA4 (zA2 (Jf rfl (J3 rfl (zA6 (zA4 (zA4 (zA2 (J7 rfl (Js zE rfl (Jt rfl rfl (zA6 (zB2 rfl ?_ ?_))))))))))))
  ·
   intro h7; have g7 := of_decide_eq_true h7; refine zA4 (zAq zBk hs ?_); intro w tr hK; replace hs := tr _ hs; clear tr; refine Qd 0 rfl zCq rfl (fun w hs => hE.cellW hs 104 (by decide) rfl) hK (Q5 1 rfl (v := .pointer none) rfl hK (Q1 2 rfl rfl hK (zAs (by kernel_rfl) ?_))); clear hK; refine zAe (zEd (v := .pointer none) (v2 := zAk ad _) rfl rfl rfl ?_); exact ⟨_, rfl, none, by rw [epF, if_pos (by omega)], hs⟩
  ·
   intro h7; have g7 := of_decide_eq_false h7; refine zAd (zA4 (zA4 (zA2 (J7 rfl (Qg en123 (conP_sl hs hr rfl (by omega)) ?_))))); clear hs; rintro _ w ⟨rfl, hs⟩; refine zA6 (zB2 rfl ?_ ?_)
   ·
    intro h10; refine zA4 (zAq zBk hs ?_); intro w tr hK; replace hs := tr _ hs; clear tr; refine Qd 0 rfl zCq rfl (fun w hs => hE.cellW hs 105 (by decide) rfl) hK (Q5 1 rfl (v := .pointer none) rfl hK (Q1 2 rfl rfl hK (zAs (by kernel_rfl) ?_))); clear hK; refine zAe (zEd (v := .pointer none) (v2 := zAk ad _) rfl rfl rfl ?_); exact ⟨_, rfl, none, by rw [epF, if_neg (by omega), if_pos (zFc h10)], hs⟩
   ·
    intro h10; refine zAd (zA4 (zA4 (zA2 (J4 rfl (zA6 (zAp (zBs (X := Nat) [2, 3, 4, 12, 13, 14, 15, 16, 17, 18, 19, 20, 21, 22, 23, 24, 25, 26, 27, 28, 29, 30, 31, 32, 33, 34, 35, 36, 37, 38, 39, 40, 41, 42, 43, 44] (fun k => [(4, .int .i64 (k : Nat))]) (fun k w => 1 ≤ k ∧ (∀ i, 1 ≤ i → i < k → i < l.length → risAt l i = true) ∧ Mem g w L) (fun k => l.length - k) (1) ?_ ?_ ?_)))))))
    · exact ⟨rfl, trivial⟩
    · exact ⟨Nat.le_refl _, fun i h1 h2 => by omega, hs⟩
    clear hs; rintro x ξ w hI; obtain ⟨hk, hq, hs⟩ := hI; refine zA4 (zA4 (zA2 (J0 rfl (J7 rfl (Js zE rfl (Jn rfl rfl (zA6 (zB2 rfl ?_ ?_))))))))
    ·
     intro h15; have g15 := of_decide_eq_true h15; obtain ⟨y, hy⟩ : ∃ y, l[x]? = some y := ⟨_, List.getElem?_eq_getElem (by omega)⟩; obtain ⟨y0, hy0⟩ : ∃ y, l[x - 1]? = some y := ⟨_, List.getElem?_eq_getElem (by omega)⟩; obtain ⟨b1, o1, rfl⟩ := hr.at hs (by rw [zEy]; omega); have hra := risAt_eq hy0 hy; refine zAd (zA4 (zAp (zA4 (zAq zBk hs ?_)))); intro w tr hK; replace hs := tr _ hs; clear tr; refine Q3 0 rfl rfl hK (Q2 1 rfl rfl hK (Qb 2 rfl (fun w hs => zAy zE sz46 rfl rfl rfl (by omega) rfl) hK ?_))
     refine Q6 3 rfl uz46 rfl sz3 rfl rfl rfl hK (Qd 4 rfl uz3 rfl (fun w hs => hr.cell hs (zEh hy) (j := 0) rfl) hK (Q3 5 rfl rfl hK (Q2 6 rfl rfl hK (Qb 7 rfl (fun w hs => zCx rfl rfl (c := ((x - 1 : Nat) : Int)) (by omega) (inI (by omega) (by omega))) hK (Qb 8 rfl (fun w hs => zAy zE sz46 rfl rfl rfl (by omega) rfl) hK (Q6 9 rfl uz46 rfl sz3 rfl rfl rfl hK (Qd 10 rfl uz3 rfl (fun w hs => hr.cell hs (zEh hy0) (j := 0) rfl) hK ?_)))))))
     refine Qb 11 rfl (fun w hs => zE8 rfl rfl) hK (Q4 12 rfl (v := .bool _) rfl hK (zGu (t := _) (d := 30) rfl ?_ ?_))
     ·
      intro h29; have g29 := of_decide_eq_true h29; refine zAf 13 rfl rfl rfl rfl h29 hK (zAf 14 rfl rfl rfl rfl h29 hK (zAf 15 rfl rfl rfl rfl h29 hK (zAf 16 rfl rfl rfl rfl h29 hK (zAf 17 rfl rfl rfl rfl h29 hK (zAf 18 rfl rfl rfl rfl h29 hK (zAf 19 rfl rfl rfl rfl h29 hK (zAf 20 rfl rfl rfl rfl h29 hK (zAf 21 rfl rfl rfl rfl h29 hK (zAf 22 rfl rfl rfl rfl h29 hK (zAf 23 rfl rfl rfl rfl h29 hK ?_)))))))))); refine zAf 24 rfl rfl rfl rfl h29 hK (Qb 25 rfl (fun w hs => zAj (v := .bool _) rfl h29 rfl) hK (zAs (by kernel_rfl) ?_)); clear hK; refine zBc rfl rfl (zA4 ?_)
      refine zAq zBk hs ?_; intro w tr hK; replace hs := tr _ hs; clear tr; refine Qd 0 rfl zCq rfl (fun w hs => hE.cellW hs 103 (by decide) rfl) hK (Q5 1 rfl (v := .pointer none) rfl hK (Q1 2 rfl rfl hK (zAs (by kernel_rfl) ?_))); clear hK; refine zAe (zEd (v := .pointer none) (v2 := zAk ad _) rfl rfl rfl ?_); exact ⟨_, rfl, none, by rw [epF, if_neg (by omega), if_neg (by rw [zEr h10]; decide), if_pos (ris_no hk (by omega) (by rw [hra]; simp; omega))], hs⟩
     ·
      intro h29; have g29 := of_decide_eq_false h29; refine zAi 13 rfl rfl rfl rfl h29 (fun w hs => zA1 (v := .slice _ _ _) rfl) hK (zAi 14 rfl rfl rfl rfl h29 (fun w hs => zA1 (v := .int .i64 _) rfl) hK (zAi 15 rfl rfl rfl rfl h29 (fun w hs => zAy zE sz46 rfl rfl rfl (by omega) rfl) hK (zAi 16 rfl rfl rfl rfl h29 (fun w hs => zA5 uz46 rfl sz2 rfl rfl rfl) hK (zAi 17 rfl rfl rfl rfl h29 (fun w hs => zA7 uz2 rfl rfl (hr.cell hs (zEh hy) (j := 1) rfl)) hK (zAi 18 rfl rfl rfl rfl h29 (fun w hs => zA1 (v := .slice _ _ _) rfl) hK (zAi 19 rfl rfl rfl rfl h29 (fun w hs => zA1 (v := .int .i64 _) rfl) hK ?_))))))
      refine zAi 20 rfl rfl rfl rfl h29 (fun w hs => zCx rfl rfl (c := ((x - 1 : Nat) : Int)) (by omega) (inI (by omega) (by omega))) hK (zAi 21 rfl rfl rfl rfl h29 (fun w hs => zAy zE sz46 rfl rfl rfl (by omega) rfl) hK (zAi 22 rfl rfl rfl rfl h29 (fun w hs => zA5 uz46 rfl sz2 rfl rfl rfl) hK (zAi 23 rfl rfl rfl rfl h29 (fun w hs => zA7 uz2 rfl rfl (hr.cell hs (zEh hy0) (j := 1) rfl)) hK (zAi 24 rfl rfl rfl rfl h29 (fun w hs => zE8 rfl rfl) hK (Qb 25 rfl (fun w hs => zAg (v := .bool _) rfl h29 rfl) hK (zAs (by kernel_rfl) ?_)))))); clear hK; refine zB2 rfl ?_ ?_
      ·
       intro h42; have g42 := of_decide_eq_true h42; refine zA4 (zAq zBk hs ?_); intro w tr hK; replace hs := tr _ hs; clear tr; refine Qd 0 rfl zCq rfl (fun w hs => hE.cellW hs 103 (by decide) rfl) hK (Q5 1 rfl (v := .pointer none) rfl hK (Q1 2 rfl rfl hK (zAs (by kernel_rfl) ?_))); clear hK; refine zAe (zEd (v := .pointer none) (v2 := zAk ad _) rfl rfl rfl ?_); exact ⟨_, rfl, none, by rw [epF, if_neg (by omega), if_neg (by rw [zEr h10]; decide), if_pos (ris_no hk (by omega) (by rw [hra]; simp; omega))], hs⟩
      ·
       intro h42; have g42 := of_decide_eq_false h42; refine zAd (zA2 (J0 rfl (Jo rfl rfl rfl (inI (by omega) (by omega)) (J4 rfl (zA6 ?_))))); exact ⟨x + 1, by omega, ⟨by omega, (fun i h1 h2 h3 => by rcases Nat.lt_or_ge i x with h | h; exact hq i h1 h h3; obtain rfl : i = x := (by omega); rw [hra]; simp; omega), hs⟩, ⟨rfl, trivial⟩, by repeat (first | exact Out.mix _ _ _ | refine Out.updo rfl ?_ | refine Out.upd rfl ?_ | refine Out.mixIn rfl ?_)⟩
    ·
     intro h15; have g15 := of_decide_eq_false h15; refine zBm rfl (zA4 (zA2 (J7 rfl (Qg en86 (clonePr_sl hs hr rfl (by omega)) ?_)))); clear hs; rintro _ w ⟨s, rfl, hs⟩; refine Qa (zBg ([.slice s.1 l.length s.2]) uz209 ze209 pl209 rfl (by simp [Value.cells]) rfl rfl) (zBp (v := .agg _) hs rfl rfl ?_); clear hs; intro b48 w hs
     try simp only [zzs, zzz] at hs
     refine Jd rfl (J3 rfl (zA6 (zAe (zEd (v := .pointer (some _)) (v2 := .nilIface) rfl rfl rfl ?_)))); exact ⟨_, rfl, some ⟨b48, 0, none⟩, by rw [epF, if_neg (by omega), if_neg (by rw [zEr h10]; decide), if_neg (by rw [ris_iff.2 (fun i h1 h2 => hq i h1 (by omega) h2)]; decide), zB], hs.tail.tail⟩
theorem dup_no {l : List Ob} {x : Nat} {y : Ob} (hy : l[x]? = some y) (h : ((l.take x).any fun u => decide (u.1 = y.1)) = true) : ¬ (l.map Prod.fst).Nodup := fun hn => by
  obtain ⟨u, hu, he⟩ := List.any_eq_true.1 h; have he : u.1 = y.1 := of_decide_eq_true he; obtain ⟨j, hj⟩ := List.mem_iff_getElem?.1 hu; obtain ⟨hjl, _⟩ := List.getElem?_eq_some_iff.1 hj; rw [List.length_take] at hjl; rw [List.getElem?_take_of_lt (by omega)] at hj
  have h1 : (l.map Prod.fst)[j]? = some y.1 := by rw [List.getElem?_map, hj, Option.map_some, he]
  have h2 : (l.map Prod.fst)[x]? = some y.1 := by rw [List.getElem?_map, hy, Option.map_some]
  obtain ⟨g1, e1⟩ := List.getElem?_eq_some_iff.1 h1; obtain ⟨g2, e2⟩ := List.getElem?_eq_some_iff.1 h2; have := (List.getElem_inj hn).1 (e1.trans e2.symm)
  omega
theorem nodup_next {l : List Ob} {x : Nat} {y : Ob} (hy : l[x]? = some y) (hq : ((l.take x).map Prod.fst).Nodup) (h : ((l.take x).any fun u => decide (u.1 = y.1)) = false) : ((l.take (x + 1)).map Prod.fst).Nodup := by
  rw [List.take_add_one, hy, List.map_append, List.nodup_append]; refine ⟨hq, by simp, fun a ha b hb e => ?_⟩; simp only [Option.toList, List.map_cons, List.map_nil, List.mem_cons, List.not_mem_nil, or_false] at hb; obtain ⟨u, hu, rfl⟩ := List.mem_map.1 ha; have := List.any_eq_false.1 h u hu; simp only [decide_eq_true_eq] at this; exact this (e.trans hb)
theorem objects_sl (hE : ErrV ad g) (hs : Mem g w L) {a : Option Addr} {n c : Nat} {l : List Ob} (hr : RdK g L 3 (.slice a n c) (l.map obL)) (hn : n = l.length) (hlen : l.length ≤ 1000000) : Calls Tryz.prog 85 #[.slice a n c] w (Ret (RetF ad (obF l) g L)) := by
  subst hn; refine zAh Tryz.func85 rfl rfl ?_
  refine zA4 (zA2 (J3 rfl (zA6 (zA4 (zA4 (zA2 (J7 rfl (Js zD rfl (Jn rfl rfl (J2 rfl (zB3 (t := _) (d := 10) rfl ?_ ?_)))))))))))
  ·
   intro h9; have g9 := of_decide_eq_true h9; refine Qe rfl rfl h9 (Qe rfl rfl h9 (Qe rfl rfl h9 (Ja rfl h9 rfl (zA6 (zBc rfl rfl (zA4 (zA2 (Jq zCq rfl rfl (hE.cellW hs 104 (by decide) rfl) (J6 rfl (zA6 (zAe ?_))))))))))); refine zBi (v := zAk ad _) rfl rfl ?_; rw [obF, if_pos (by omega)]; exact ⟨_, rfl, RetF.bare hs⟩
  ·
   intro h9; have g9 := of_decide_eq_false h9; refine zAl rfl rfl h9 (J7 rfl (zAl rfl rfl h9 (Js zD rfl (zAl rfl rfl h9 (Jt rfl rfl (J9 rfl h9 rfl (zA6 (zB2 rfl ?_ ?_))))))))
   ·
    intro h13; have g13 := of_decide_eq_true h13; refine zA4 (zA2 (Jq zCq rfl rfl (hE.cellW hs 104 (by decide) rfl) (J6 rfl (zA6 (zAe (zBi (v := zAk ad _) rfl rfl ?_)))))); rw [obF, if_pos (by omega)]; exact ⟨_, rfl, RetF.bare hs⟩
   ·
    intro h13; have g13 := of_decide_eq_false h13; refine zAd (zA4 (zA4 (zA2 (J7 rfl (Js zD rfl (J0 rfl (zA6 (zAp (zBs (X := Nat) [2, 3, 4, 18, 19, 20, 21, 22, 23, 24, 25, 26, 27, 28, 29, 30, 31, 32, 33, 34, 35, 36, 37, 38, 39, 40, 41, 42, 43, 44, 45] (fun k => [(18, .int .i64 (k : Nat))]) (fun k w => k ≤ l.length ∧ (∀ j, j < k → ∀ u, l[j]? = some u → zD7 u = 0) ∧ Mem g w L) (fun k => l.length - k) (0) ?_ ?_ ?_)))))))))
    · exact ⟨rfl, trivial⟩
    · exact ⟨Nat.zero_le _, fun j h => by omega, hs⟩
    clear hs; rintro x ξ w hI; obtain ⟨hk, hq, hs⟩ := hI; refine zA4 (zA2 (Jn rfl rfl (zA6 (zA4 (zB2 rfl ?_ ?_)))))
    ·
     intro h19; have g19 := of_decide_eq_true h19; obtain ⟨y, hy⟩ : ∃ y, l[x]? = some y := ⟨_, List.getElem?_eq_getElem (by omega)⟩; obtain ⟨b1, o1, rfl⟩ := hr.at hs (by rw [zEz]; omega); refine zAd (zA4 (zAp (zA4 (zA2 (J0 rfl (Qa (zAy zD sz66 rfl rfl rfl (by omega) rfl) (Qa (zDa (cs := obL y) zG2 sz66 rfl (fun j v hj => hr.cell hs (zG9 hy) hj)) (zBj hs rfl ze66 ?_)))))))); clear hs; intro b4 w hs
     try simp only [zzs, zzz] at hs
     refine J4 rfl (zAr hs 0 rfl rfl rfl sz66 rfl rfl ?_); clear hs; intro w hs
     try simp only [zzs, zzz] at hs
     refine zA6 (zA4 (zA4 (zA2 (Jp (o' := 0) zG2 rfl sz9 rfl rfl rfl (Qc uz9 rfl hs 0 rfl rfl (Qg en89 (zGb hs y.1) ?_)))))); clear hs; rintro _ w ⟨rfl, hs⟩; refine Jr rfl (zA6 (zB2 rfl ?_ ?_))
     ·
      intro h25; replace h25 := zFc h25; refine zA4 (zA2 (J0 rfl (Jq zCq rfl rfl (hE.cellW hs 106 (by decide) rfl) (Qa (zBg [.int .i64 (x : Nat), zAk ad 106] uz114 ze114 pl114 rfl (at_one _ _) rfl rfl) (zBp (v := .agg _) hs rfl rfl ?_))))); clear hs; intro b30 w hs
      try simp only [zzs, zzz] at hs
      refine Qa (run_mkI uz112 rfl) (Jl (v := .iface _ (.pointer (some _))) rfl (zA6 (zAe (zBi (v := .iface _ (.pointer (some _))) rfl rfl ?_))))
      have e : zD7 y = 106 := by simp [zD7, h25]
      rw [obF_bad (by omega) hy (by rw [e]; decide) hq, e]; exact ⟨_, rfl, b30, rfl, hs.arr [0] 2 (by decide)⟩
     ·
      intro h25; replace h25 := zEr h25; refine zAd (zA4 (zA2 (Jp (o' := 1) zG2 rfl sz3 rfl rfl rfl (Qc uz3 rfl hs 0 rfl rfl (Jn rfl rfl (J2 rfl (zB3 (t := _) (d := 35) rfl ?_ ?_)))))))
      ·
       intro h34; have g34 := of_decide_eq_true h34; refine Qe rfl rfl h34 (Qe rfl rfl h34 (Qe rfl rfl h34 (Ja rfl h34 rfl (zA6 (zBc rfl rfl (zA4 (zA2 (J0 rfl (Jq zCq rfl rfl (hE.cellW hs 105 (by decide) rfl) (Qa (zBg [.int .i64 (x : Nat), zAk ad 105] uz114 ze114 pl114 rfl (at_one _ _) rfl rfl) (zBp (v := .agg _) hs rfl rfl ?_))))))))))); clear hs; intro b43 w hs
       try simp only [zzs, zzz] at hs
       refine Qa (run_mkI uz112 rfl) (Jl (v := .iface _ (.pointer (some _))) rfl (zA6 (zAe (zBi (v := .iface _ (.pointer (some _))) rfl rfl ?_))))
       have e : zD7 y = 105 := by simp [zD7, h25]; omega
       rw [obF_bad (by omega) hy (by rw [e]; decide) hq, e]; exact ⟨_, rfl, b43, rfl, hs.arr [0] 2 (by decide)⟩
      ·
       intro h34; have g34 := of_decide_eq_false h34; refine zAl rfl rfl h34 (Jp (o' := 1) zG2 rfl sz3 rfl rfl rfl (zAl rfl rfl h34 (Qc uz3 rfl hs 0 rfl rfl (zAl rfl rfl h34 (Jt rfl rfl (J9 rfl h34 rfl (zA6 (zB2 rfl ?_ ?_))))))))
       ·
        intro h38; have g38 := of_decide_eq_true h38; refine zA4 (zA2 (J0 rfl (Jq zCq rfl rfl (hE.cellW hs 105 (by decide) rfl) (Qa (zBg [.int .i64 (x : Nat), zAk ad 105] uz114 ze114 pl114 rfl (at_one _ _) rfl rfl) (zBp (v := .agg _) hs rfl rfl ?_))))); clear hs; intro b43 w hs
        try simp only [zzs, zzz] at hs
        refine Qa (run_mkI uz112 rfl) (Jl (v := .iface _ (.pointer (some _))) rfl (zA6 (zAe (zBi (v := .iface _ (.pointer (some _))) rfl rfl ?_))))
        have e : zD7 y = 105 := by simp [zD7, h25]; omega
        rw [obF_bad (by omega) hy (by rw [e]; decide) hq, e]; exact ⟨_, rfl, b43, rfl, hs.arr [0] 2 (by decide)⟩
       ·
        intro h38; have g38 := of_decide_eq_false h38; refine zAd (zA2 (Jo rfl rfl rfl (inI (by omega) (by omega)) (J0 rfl (zA6 ?_)))); exact ⟨x + 1, by omega, ⟨by omega, (fun j hj u hu => by rcases Nat.lt_or_ge j x with h | h; exact hq j h u hu; obtain rfl : j = x := (by omega); rw [hy] at hu; cases hu; simp only [zD7, h25, Bool.true_eq_false, if_false]; rw [if_neg (by omega)]), hs.tail⟩, ⟨rfl, trivial⟩, by repeat (first | exact Out.mix _ _ _ | refine Out.updo rfl ?_ | refine Out.upd rfl ?_ | refine Out.mixIn rfl ?_)⟩
    ·
     intro h19; have g19 := of_decide_eq_false h19
     have hall : ∀ (j : Nat) (u : Ob), l[j]? = some u → zD7 u = 0 := fun j u hu => hq j (by have := (List.getElem?_eq_some_iff.1 hu).1; omega) u hu
     refine zBm rfl (zA4 (zA4 (zA2 (J7 rfl (Js zD rfl (J0 rfl (zA6 (zAp (zBs (X := Nat) [2, 5, 6, 48, 49, 50, 51, 52, 53, 54, 55, 56, 57, 58, 59] (fun k => [(48, .int .i64 (k : Nat))]) (fun k w => k ≤ l.length ∧ ((l.take k).map Prod.fst).Nodup ∧ Mem g w L) (fun k => l.length - k) (0) ?_ ?_ ?_)))))))))
     · exact ⟨rfl, trivial⟩
     · exact ⟨Nat.zero_le _, by simp, hs⟩
     clear hs; rintro x ξ w hI; obtain ⟨hk1, hq1, hs⟩ := hI; refine zA4 (zA2 (Jn rfl rfl (zA6 (zA4 (zB2 rfl ?_ ?_)))))
     ·
      intro h49; have g49 := of_decide_eq_true h49; have hs0 := hs; obtain ⟨y, hy⟩ : ∃ y, l[x]? = some y := ⟨_, List.getElem?_eq_getElem (by omega)⟩; obtain ⟨b1, o1, rfl⟩ := hr.at hs (by rw [zEz]; omega); refine zAd (zA4 (zAp (zA4 (zA2 (J0 rfl (Qa (zAy zD sz66 rfl rfl rfl (by omega) rfl) (Qa (zDa (cs := obL y) zG2 sz66 rfl (fun j v hj => hr.cell hs (zG9 hy) hj)) (zBj hs rfl ze66 ?_)))))))); clear hs; intro b6 w hs
      try simp only [zzs, zzz] at hs
      refine J4 rfl (zAr hs 0 rfl rfl rfl sz66 rfl rfl ?_); clear hs; intro w hs
      try simp only [zzs, zzz] at hs
      refine zA6 (zA4 (zA2 (J7 rfl (J0 rfl (Qa (run_sliceToK zD sz66 rfl rfl (hi := x) rfl (by have := hr.cap hs0; omega) (.inr ⟨b1, o1, rfl⟩)) ?_))))); refine Qa (zC9) (Qg en126 (conO_sl (l := l.take x) (o := y) hs (by rw [List.map_take]; exact hr.cons.take (by omega)) (by rw [List.length_take]; omega) (by rw [List.length_take]; omega)) ?_); clear hs; rintro _ w ⟨rfl, hs⟩; refine zA6 (zB2 rfl ?_ ?_)
      ·
       intro h57; refine zA4 (zA2 (Jq zCq rfl rfl (hE.cellW hs 103 (by decide) rfl) (J6 rfl (zA6 (zAe (zBi (v := zAk ad _) rfl rfl ?_)))))); rw [obF_fine (by omega) hall, if_neg (dup_no hy h57)]; exact ⟨_, rfl, RetF.bare hs.tail⟩
      ·
       intro h57; refine zAd (zA2 (Jo rfl rfl rfl (inI (by omega) (by omega)) (J0 rfl (zA6 ?_)))); exact ⟨x + 1, by omega, ⟨by omega, nodup_next hy hq1 h57, hs.tail⟩, ⟨rfl, trivial⟩, by repeat (first | exact Out.mix _ _ _ | refine Out.updo rfl ?_ | refine Out.upd rfl ?_ | refine Out.mixIn rfl ?_)⟩
     ·
      intro h49; have g49 := of_decide_eq_false h49; refine zBm rfl (zA4 (zA2 (J3 rfl (zA6 (zAe (zBi (v := .nilIface) rfl rfl ?_))))))
      have e : x = l.length := by omega
      rw [e, List.take_length] at hq1; rw [obF_fine (by omega) hall, if_pos hq1]; exact ⟨_, rfl, by rw [← zB ad]; exact RetF.bare hs⟩
end
section
open Go.RowKit
attribute [local irreducible] zAk
variable {g w : World} {L M : List HP} {ad : Nat → Addr}
def textsL (l : List ByteArray) : List Value := l.map Value.string
end
section
open Go.RowKit
attribute [local irreducible] zAk
variable {g w : World} {L M : List HP} {ad : Nat → Addr} {p : Nat}
theorem zH {l : List Pr} {i : Nat} {y : Pr} (h : l[i]? = some y) : l.getD i (0, 0) = y := by rw [List.getD_eq_getElem?_getD, h]; rfl
theorem epF_len {l : List Pr} (h : epF l = 0) : l.length ≤ 256 := by
  unfold epF at h
  split at h
  · cases h
  · omega
theorem validM_sl (hE : ErrV ad g) (hs : Mem g w L) {x : Mf} {e o : SA} (hm : MfR g L x e o) (hob : x.obs.length ≤ 1000000) : Calls Tryz.prog 45 #[.agg (mfL x e o).toArray] w (Ret (RetF ad (mfF x) g L)) := by
  obtain ⟨ea, ec⟩ := e; refine zAh Tryz.func45 rfl rfl ?_
  refine zA4 (zA2 (zBp (v := .agg _) hs rfl rfl ?_)); clear hs; intro b1 w hs
  try simp only [zzs, zzz] at hs
  refine J3 rfl (zA6 (zA4 (zA2 (Jl (v := .func _ _ _) rfl (zA6 (zA4 (zA4 (zA2 (Jp (o' := 0) zCp rfl sz3 rfl rfl rfl (Qc uz3 rfl hs 0 rfl rfl (Jn rfl rfl (J2 rfl (zB3 (t := _) (d := 10) rfl ?_ ?_)))))))))))))
  ·
   intro h9; have g9 := of_decide_eq_true h9; refine Qe rfl rfl h9 (Qe rfl rfl h9 (Qe rfl rfl h9 (Ja rfl h9 rfl (J2 rfl (Qe rfl rfl rfl (Qe rfl rfl rfl (Qe rfl rfl rfl (Qe rfl rfl rfl (Qe rfl rfl rfl (Ja rfl rfl rfl ?_)))))))))); refine J2 rfl (Qe rfl rfl rfl (Qe rfl rfl rfl (Qe rfl rfl rfl (Qe rfl rfl rfl (Qe rfl rfl rfl (Ja rfl rfl rfl ?_))))))
   refine J2 rfl (Qe rfl rfl rfl (Qe rfl rfl rfl (Qe rfl rfl rfl (Ja rfl rfl rfl (J2 rfl (Qe rfl rfl rfl (Qe rfl rfl rfl (Qe rfl rfl rfl (Ja rfl rfl rfl (J2 rfl ?_)))))))))); refine Qe rfl rfl rfl (Qe rfl rfl rfl (Qe rfl rfl rfl (Qe rfl rfl rfl (Qe rfl rfl rfl (Ja rfl rfl rfl (zA6 (zBc rfl rfl (zA4 (zA2 ?_)))))))))
   refine Jq zCq rfl rfl (hE.cellW hs 105 (by decide) rfl) (J6 rfl (zA6 (zAe (zBi (v := zAk ad _) rfl rfl ?_))))
   have hr : zBl x = true := by simp [zBl, *]
   rw [mfF, if_pos hr]; exact ⟨_, rfl, RetF.bare hs.tail⟩
  ·
   intro h9; have g9 := of_decide_eq_false h9; refine zAl rfl rfl h9 (Jp (o' := 0) zCp rfl sz3 rfl rfl rfl (zAl rfl rfl h9 (Qc uz3 rfl hs 0 rfl rfl (zAl rfl rfl h9 (Jt rfl rfl (J9 rfl h9 rfl (J2 rfl (zB3 (t := _) (d := 15) rfl ?_ ?_))))))))
   ·
    intro h13; have g13 := of_decide_eq_true h13; refine Qe rfl rfl h13 (Qe rfl rfl h13 (Qe rfl rfl h13 (Qe rfl rfl h13 (Qe rfl rfl h13 (Ja rfl h13 rfl (J2 rfl (Qe rfl rfl rfl (Qe rfl rfl rfl (Qe rfl rfl rfl (Qe rfl rfl rfl ?_)))))))))); refine Qe rfl rfl rfl (Ja rfl rfl rfl (J2 rfl (Qe rfl rfl rfl (Qe rfl rfl rfl (Qe rfl rfl rfl (Ja rfl rfl rfl ?_))))))
    refine J2 rfl (Qe rfl rfl rfl (Qe rfl rfl rfl (Qe rfl rfl rfl (Ja rfl rfl rfl (J2 rfl (Qe rfl rfl rfl (Qe rfl rfl rfl (Qe rfl rfl rfl (Qe rfl rfl rfl (Qe rfl rfl rfl ?_)))))))))); refine Ja rfl rfl rfl (zA6 (zBc rfl rfl (zA4 (zA2 (Jq zCq rfl rfl (hE.cellW hs 105 (by decide) rfl) (J6 rfl (zA6 (zAe (zBi (v := zAk ad _) rfl rfl ?_)))))))))
    have hr : zBl x = true := by simp [zBl, *]
    rw [mfF, if_pos hr]; exact ⟨_, rfl, RetF.bare hs.tail⟩
   ·
    intro h13; have g13 := of_decide_eq_false h13; refine zAl rfl rfl h13 (Jm (v := .func _ _ _) rfl (zAl rfl rfl h13 (Jp (o' := 1) zCp rfl sz2 rfl rfl rfl (zAl rfl rfl h13 (Qc uz2 rfl hs 0 rfl rfl (zAl rfl rfl h13 (zGv rfl (cap := #[]) en83 rfl (right_sl hs x.base) ?_))))))); clear hs; rintro _ w ⟨rfl, hs⟩; refine zAl rfl rfl h13 (Jr rfl (J9 rfl h13 rfl (J2 rfl (zB3 (t := _) (d := 22) rfl ?_ ?_))))
    ·
     intro h19; replace h19 := zFc h19; refine Qe rfl rfl (zCs h19) (Qe rfl rfl (zCs h19) (Qe rfl rfl (zCs h19) (Qe rfl rfl (zCs h19) (Qe rfl rfl (zCs h19) (Ja rfl (zCs h19) rfl (J2 rfl (Qe rfl rfl rfl (Qe rfl rfl rfl (Qe rfl rfl rfl (Ja rfl rfl rfl ?_)))))))))); refine J2 rfl (Qe rfl rfl rfl (Qe rfl rfl rfl (Qe rfl rfl rfl (Ja rfl rfl rfl ?_))))
     refine J2 rfl (Qe rfl rfl rfl (Qe rfl rfl rfl (Qe rfl rfl rfl (Qe rfl rfl rfl (Qe rfl rfl rfl (Ja rfl rfl rfl (zA6 (zBc rfl rfl (zA4 (zA2 (Jq zCq rfl rfl (hE.cellW hs 105 (by decide) rfl) ?_))))))))))); refine J6 rfl (zA6 (zAe (zBi (v := zAk ad _) rfl rfl ?_)))
     have hr : zBl x = true := by simp [zBl, *]
     rw [mfF, if_pos hr]; exact ⟨_, rfl, RetF.bare hs.tail⟩
    ·
     intro h19; replace h19 := zEr h19; refine zAl rfl rfl (zBt h19) (Jm (v := .func _ _ _) rfl (zAl rfl rfl (zBt h19) (Jp (o' := 2) zCp rfl sz2 rfl rfl rfl (zAl rfl rfl (zBt h19) (Qc uz2 rfl hs 0 rfl rfl (zAl rfl rfl (zBt h19) (zGv rfl (cap := #[]) en83 rfl (right_sl hs x.fin) ?_))))))); clear hs; rintro _ w ⟨rfl, hs⟩; refine zAl rfl rfl (zBt h19) (Jr rfl (J9 rfl (zBt h19) rfl (J2 rfl (zB3 (t := _) (d := 29) rfl ?_ ?_))))
     ·
      intro h26; replace h26 := zFc h26; refine Qe rfl rfl (zCs h26) (Qe rfl rfl (zCs h26) (Qe rfl rfl (zCs h26) (Ja rfl (zCs h26) rfl (J2 rfl (Qe rfl rfl rfl (Qe rfl rfl rfl (Qe rfl rfl rfl (Ja rfl rfl rfl (J2 rfl (Qe rfl rfl rfl ?_)))))))))); refine Qe rfl rfl rfl (Qe rfl rfl rfl (Qe rfl rfl rfl (Qe rfl rfl rfl (Ja rfl rfl rfl (zA6 (zBc rfl rfl ?_))))))
      refine zA4 (zA2 (Jq zCq rfl rfl (hE.cellW hs 105 (by decide) rfl) (J6 rfl (zA6 (zAe (zBi (v := zAk ad _) rfl rfl ?_))))))
      have hr : zBl x = true := by simp [zBl, *]
      rw [mfF, if_pos hr]; exact ⟨_, rfl, RetF.bare hs.tail⟩
     ·
      intro h26; replace h26 := zEr h26; refine zAl rfl rfl (zBt h26) (Jp (o' := 3) zCp rfl sz2 rfl rfl rfl (zAl rfl rfl (zBt h26) (Qc uz2 rfl hs 0 rfl rfl (zAl rfl rfl (zBt h26) (Jn rfl rfl (J9 rfl (zBt h26) rfl (J2 rfl (zB3 (t := _) (d := 34) rfl ?_ ?_))))))))
      ·
       intro h32; have g32 := of_decide_eq_true h32; refine Qe rfl rfl h32 (Qe rfl rfl h32 (Qe rfl rfl h32 (Ja rfl h32 rfl (J2 rfl (Qe rfl rfl rfl (Qe rfl rfl rfl (Qe rfl rfl rfl (Qe rfl rfl rfl (Qe rfl rfl rfl (Ja rfl rfl rfl ?_)))))))))); refine zA6 (zBc rfl rfl (zA4 (zA2 (Jq zCq rfl rfl (hE.cellW hs 105 (by decide) rfl) (J6 rfl (zA6 (zAe (zBi (v := zAk ad _) rfl rfl ?_))))))))
       have hr : zBl x = true := by simp [zBl, *]
       rw [mfF, if_pos hr]; exact ⟨_, rfl, RetF.bare hs.tail⟩
      ·
       intro h32; have g32 := of_decide_eq_false h32; refine zAl rfl rfl h32 (Jp (o' := 3) zCp rfl sz2 rfl rfl rfl (zAl rfl rfl h32 (Qc uz2 rfl hs 0 rfl rfl (zAl rfl rfl h32 (Jt rfl rfl (J9 rfl h32 rfl (J2 rfl (zB3 (t := _) (d := 39) rfl ?_ ?_))))))))
       ·
        intro h37; have g37 := of_decide_eq_true h37; refine Qe rfl rfl h37 (Qe rfl rfl h37 (Qe rfl rfl h37 (Qe rfl rfl h37 (Qe rfl rfl h37 (Ja rfl h37 rfl (zA6 (zBc rfl rfl (zA4 (zA2 (Jq zCq rfl rfl (hE.cellW hs 105 (by decide) rfl) (J6 rfl ?_))))))))))); refine zA6 (zAe (zBi (v := zAk ad _) rfl rfl ?_))
        have hr : zBl x = true := by simp [zBl, *]
        rw [mfF, if_pos hr]; exact ⟨_, rfl, RetF.bare hs.tail⟩
       ·
        intro h37; have g37 := of_decide_eq_false h37; refine zAl rfl rfl h37 (Jp (o' := 2) zCp rfl sz2 rfl rfl rfl (zAl rfl rfl h37 (Qc uz2 rfl hs 0 rfl rfl (zAl rfl rfl h37 (Jp (o' := 1) zCp rfl sz2 rfl rfl rfl (zAl rfl rfl h37 (Qc uz2 rfl hs 0 rfl rfl (zAl rfl rfl h37 (Qa (zE8 rfl rfl) (J9 rfl h37 rfl ?_)))))))))); refine zA6 (zB2 rfl ?_ ?_)
        ·
         intro h44; have g44 := of_decide_eq_true h44; refine zA4 (zA2 (Jq zCq rfl rfl (hE.cellW hs 105 (by decide) rfl) (J6 rfl (zA6 (zAe (zBi (v := zAk ad _) rfl rfl ?_))))))
         have hr : zBl x = true := by simp [zBl, *]
         rw [mfF, if_pos hr]; exact ⟨_, rfl, RetF.bare hs.tail⟩
        ·
         intro h44; have g44 := of_decide_eq_false h44; refine zAd (zA4 (zA4 (zA2 (Jp (o' := 4) zCp rfl sz36 rfl rfl rfl (Qc zE rfl hs 0 rfl rfl (Qg en84 (epNew_sl hE hs hm.eps.cons rfl) ?_)))))); clear hs; rintro _ w ⟨q, rfl, hs⟩; refine Jc rfl (Ju (v := .pointer _) rfl rfl (Jg rfl rfl (Jl (v := .pointer _) rfl (J6 rfl (zA6 (zA4 (zA2 (J8 rfl (Jv (ad := ad) rfl (zA6 (zB2 rfl ?_ ?_)))))))))))
         ·
          intro h54; have g54 := zFj h54; refine zA4 (zA2 (J8 rfl (J6 rfl (zA6 (zAe (zBi (v := zAk ad _) rfl rfl ?_))))))
          have hr : zBl x = false := by simp [zBl, *]
          have hep : epF x.eps ≠ 0 := by simpa using h54
          rw [mfF, if_neg (by rw [hr]; decide), if_pos hep]; exact ⟨_, rfl, RetF.bare hs.tail⟩
         ·
          intro h54; have g54 := zFi h54; refine zAd (zA4 (zA4 (zA2 (Jp (o' := 4) zCp rfl sz36 rfl rfl rfl (Qc zE rfl hs 0 rfl rfl (Js zE rfl (J4 rfl (zA6 (zA4 (zAq zBk hs ?_)))))))))); intro w tr hK; replace hs := tr _ hs; clear tr; refine Q2 0 rfl rfl hK (Qb 1 rfl (fun w hs => zBq rfl rfl) hK (Q4 2 rfl (v := .bool _) rfl hK (zGu (t := _) (d := 61) rfl ?_ ?_)))
          ·
           intro h60; have g60 := of_decide_eq_true h60; refine zAf 3 rfl rfl rfl rfl h60 hK (zAf 4 rfl rfl rfl rfl h60 hK (zAf 5 rfl rfl rfl rfl h60 hK (zAf 6 rfl rfl rfl rfl h60 hK (zAf 7 rfl rfl rfl rfl h60 hK (zAf 8 rfl rfl rfl rfl h60 hK (zAf 9 rfl rfl rfl rfl h60 hK (zAf 10 rfl rfl rfl rfl h60 hK (Qb 11 rfl (fun w hs => zAj (v := .bool _) rfl h60 rfl) hK (Q4 12 rfl (v := .bool _) rfl hK (zAf 13 rfl rfl rfl rfl rfl hK ?_)))))))))); refine zAf 14 rfl rfl rfl rfl rfl hK (zAf 15 rfl rfl rfl rfl rfl hK (zAf 16 rfl rfl rfl rfl rfl hK ?_))
           refine zAf 17 rfl rfl rfl rfl rfl hK (zAf 18 rfl rfl rfl rfl rfl hK (zAf 19 rfl rfl rfl rfl rfl hK (zAf 20 rfl rfl rfl rfl rfl hK (zAf 21 rfl rfl rfl rfl rfl hK (zAf 22 rfl rfl rfl rfl rfl hK (Qb 23 rfl (fun w hs => zAj (v := .bool _) rfl rfl rfl) hK (zAs (by kernel_rfl) ?_))))))); clear hK; refine zBc rfl rfl (zA4 (zA2 (Jq zCq rfl rfl (hE.cellW hs 103 (by decide) rfl) (J6 rfl (zA6 (zAe (zBi (v := zAk ad _) rfl rfl ?_)))))))
           have hr : zBl x = false := by simp [zBl, *]
           have hep : ¬ epF x.eps ≠ 0 := by simpa using h54
           have hsb : zDh x = true := by rw [zDh, decide_eq_true (show x.eps.length = 0 by omega)]; rfl
           rw [mfF, if_neg (by rw [hr]; decide), if_neg hep, if_pos hsb]; exact ⟨_, rfl, RetF.bare hs.tail⟩
          ·
           intro h60; have g60 := of_decide_eq_false h60; obtain ⟨y0, hy0⟩ : ∃ y, x.eps[0]? = some y := ⟨_, List.getElem?_eq_getElem (by omega)⟩; obtain ⟨y1, hy1⟩ : ∃ y, x.eps[x.eps.length - 1]? = some y := ⟨_, List.getElem?_eq_getElem (by omega)⟩; obtain ⟨b1, o1, rfl⟩ := hm.eps.cons.at hs (by rw [zEy]; omega); have hlen := epF_len (show epF x.eps = 0 by simpa using h54); refine zAi 3 rfl rfl rfl rfl h60 (fun w hs => zA5 (o' := 4) zCp rfl sz36 rfl rfl rfl) hK (zAi 4 rfl rfl rfl rfl h60 (fun w hs => zA7 zE rfl rfl (hs.cellAt 0 rfl rfl)) hK (zAi 5 rfl rfl rfl rfl h60 (fun w hs => zAy zE sz46 rfl rfl (i := 0) rfl (by omega) rfl) hK ?_))
           refine zAi 6 rfl rfl rfl rfl h60 (fun w hs => zA5 uz46 rfl sz2 rfl rfl rfl) hK (zAi 7 rfl rfl rfl rfl h60 (fun w hs => zA7 uz2 rfl rfl (hm.eps.cons.cell hs (zEh hy0) (j := 1) rfl)) hK (zAi 8 rfl rfl rfl rfl h60 (fun w hs => zA5 (o' := 1) zCp rfl sz2 rfl rfl rfl) hK (zAi 9 rfl rfl rfl rfl h60 (fun w hs => zA7 uz2 rfl rfl (hs.cellAt 0 rfl rfl)) hK (zAi 10 rfl rfl rfl rfl h60 (fun w hs => zDy rfl rfl) hK (Qb 11 rfl (fun w hs => zAg (v := .bool _) rfl h60 rfl) hK (Q4 12 rfl (v := .bool _) rfl hK (zGu (t := _) (d := 71) rfl ?_ ?_)))))))
           ·
            intro h69; have g69 := zFj h69; refine zAf 13 rfl rfl rfl rfl h69 hK (zAf 14 rfl rfl rfl rfl h69 hK (zAf 15 rfl rfl rfl rfl h69 hK (zAf 16 rfl rfl rfl rfl h69 hK (zAf 17 rfl rfl rfl rfl h69 hK (zAf 18 rfl rfl rfl rfl h69 hK (zAf 19 rfl rfl rfl rfl h69 hK (zAf 20 rfl rfl rfl rfl h69 hK (zAf 21 rfl rfl rfl rfl h69 hK (zAf 22 rfl rfl rfl rfl h69 hK (Qb 23 rfl (fun w hs => zAj (v := .bool _) rfl h69 rfl) hK ?_)))))))))); refine zAs (by kernel_rfl) ?_; clear hK; refine zBc rfl rfl (zA4 (zA2 (Jq zCq rfl rfl (hE.cellW hs 103 (by decide) rfl) ?_)))
            refine J6 rfl (zA6 (zAe (zBi (v := zAk ad _) rfl rfl ?_)))
            have hr : zBl x = false := by simp [zBl, *]
            have hep : ¬ epF x.eps ≠ 0 := by simpa using h54
            have hsb : zDh x = true := by simp only [zDh, zH hy0, zH hy1]; simp; omega
            rw [mfF, if_neg (by rw [hr]; decide), if_neg hep, if_pos hsb]; exact ⟨_, rfl, RetF.bare hs.tail⟩
           ·
            intro h69; have g69 := zFi h69; refine zAi 13 rfl rfl rfl rfl h69 (fun w hs => zA5 (o' := 4) zCp rfl sz36 rfl rfl rfl) hK (zAi 14 rfl rfl rfl rfl h69 (fun w hs => zA7 zE rfl rfl (hs.cellAt 0 rfl rfl)) hK (zAi 15 rfl rfl rfl rfl h69 (fun w hs => zA1 (v := .int .i64 _) rfl) hK (zAi 16 rfl rfl rfl rfl h69 (fun w hs => zCx rfl rfl (c := ((x.eps.length - 1 : Nat) : Int)) (by omega) (inI (by omega) (by omega))) hK (zAi 17 rfl rfl rfl rfl h69 (fun w hs => zAy zE sz46 rfl rfl rfl (by omega) rfl) hK (zAi 18 rfl rfl rfl rfl h69 (fun w hs => zA5 uz46 rfl sz2 rfl rfl rfl) hK ?_)))))
            refine zAi 19 rfl rfl rfl rfl h69 (fun w hs => zA7 uz2 rfl rfl (hm.eps.cons.cell hs (zEh hy1) (j := 1) rfl)) hK (zAi 20 rfl rfl rfl rfl h69 (fun w hs => zA5 (o' := 2) zCp rfl sz2 rfl rfl rfl) hK (zAi 21 rfl rfl rfl rfl h69 (fun w hs => zA7 uz2 rfl rfl (hs.cellAt 0 rfl rfl)) hK (zAi 22 rfl rfl rfl rfl h69 (fun w hs => zD5 rfl rfl) hK (Qb 23 rfl (fun w hs => zAg (v := .bool _) rfl h69 rfl) hK (zAs (by kernel_rfl) ?_))))); clear hK; refine zB2 rfl ?_ ?_
            ·
             intro h81; have g81 := of_decide_eq_true h81; refine zA4 (zA2 (Jq zCq rfl rfl (hE.cellW hs 103 (by decide) rfl) (J6 rfl (zA6 (zAe (zBi (v := zAk ad _) rfl rfl ?_))))))
             have hr : zBl x = false := by simp [zBl, *]
             have hep : ¬ epF x.eps ≠ 0 := by simpa using h54
             have hsb : zDh x = true := by simp only [zDh, zH hy0, zH hy1]; simp; omega
             rw [mfF, if_neg (by rw [hr]; decide), if_neg hep, if_pos hsb]; exact ⟨_, rfl, RetF.bare hs.tail⟩
            ·
             intro h81; have g81 := of_decide_eq_false h81; refine zAd (zA4 (zA2 (Jp (o' := 5) zCp rfl sz37 rfl rfl rfl (Qc zD rfl hs 0 rfl rfl (Qg en85 (objects_sl hE hs hm.obs.cons rfl hob) ?_))))); clear hs; rintro _ w ⟨eb, rfl, hs⟩; refine Jl (v := flV ad _ _) rfl (zA6 (zAe (zBi (v := flV ad _ _) rfl rfl ?_)))
             have hr : zBl x = false := by simp [zBl, *]
             have hep : ¬ epF x.eps ≠ 0 := by simpa using h54
             have hsb : zDh x = false := by rw [zDh, zH hy0, zH hy1, decide_eq_false (show ¬ x.eps.length = 0 by omega), decide_eq_false (show ¬ y0.2 ≠ x.base by omega), decide_eq_false (show ¬ x.fin ≤ y1.2 by omega)]; rfl
             rw [mfF, if_neg (by rw [hr]; decide), if_neg hep, if_neg (by rw [hsb]; decide)]; exact ⟨_, rfl, eb, rfl, hs.arr [0] 2 (by decide)⟩
theorem sameM_sl (hs : Mem g w L) {x y : Mf} {e o e2 o2 : SA} (hx : MfR g L x e o) (hy : MfR g L y e2 o2) (h1 : x.eps.length ≤ 1000000) (h2 : x.obs.length ≤ 1000000) : Calls Tryz.prog 67 #[.agg (mfL x e o).toArray, .agg (mfL y e2 o2).toArray] w (Ret fun v w' => v = .bool (decide (x = y)) ∧ Mem g w' L) := by
  refine zAh Tryz.func67 rfl rfl ?_
  refine zA4 (zA2 (zBp (v := .agg _) hs rfl rfl ?_)); clear hs; intro b2 w hs
  try simp only [zzs, zzz] at hs
  refine zBp (v := .agg _) hs rfl rfl ?_; clear hs; intro b3 w hs
  try simp only [zzs, zzz] at hs
  refine J5 rfl (zA6 (zA4 (zA2 (Jp (o' := 0) zCp rfl sz3 rfl rfl rfl (Qc uz3 rfl hs 1 rfl rfl (Jp (o' := 0) zCp rfl sz3 rfl rfl rfl (Qc uz3 rfl hs 0 rfl rfl (Jw rfl rfl (J2 rfl (zB3 (t := _) (d := 10) rfl ?_ ?_))))))))))
  ·
   intro h9; have g9 := of_decide_eq_true h9; refine zAl rfl rfl h9 (Jp (o' := 1) zCp rfl sz2 rfl rfl rfl (zAl rfl rfl h9 (Qc uz2 rfl hs 1 rfl rfl (zAl rfl rfl h9 (Jp (o' := 1) zCp rfl sz2 rfl rfl rfl (zAl rfl rfl h9 (Qc uz2 rfl hs 0 rfl rfl (zAl rfl rfl h9 (Jw rfl rfl (Ja rfl h9 rfl ?_)))))))))); refine J2 rfl (zB3 (t := _) (d := 17) rfl ?_ ?_)
   ·
    intro h15; have g15 := of_decide_eq_true h15; refine zAl rfl rfl h15 (Jp (o' := 2) zCp rfl sz2 rfl rfl rfl (zAl rfl rfl h15 (Qc uz2 rfl hs 1 rfl rfl (zAl rfl rfl h15 (Jp (o' := 2) zCp rfl sz2 rfl rfl rfl (zAl rfl rfl h15 (Qc uz2 rfl hs 0 rfl rfl (zAl rfl rfl h15 (Jw rfl rfl (Ja rfl h15 rfl ?_)))))))))); refine J2 rfl (zB3 (t := _) (d := 24) rfl ?_ ?_)
    ·
     intro h22; have g22 := of_decide_eq_true h22; refine zAl rfl rfl h22 (Jp (o' := 3) zCp rfl sz2 rfl rfl rfl (zAl rfl rfl h22 (Qc uz2 rfl hs 1 rfl rfl (zAl rfl rfl h22 (Jp (o' := 3) zCp rfl sz2 rfl rfl rfl (zAl rfl rfl h22 (Qc uz2 rfl hs 0 rfl rfl (zAl rfl rfl h22 (Jw rfl rfl (Ja rfl h22 rfl ?_)))))))))); refine J2 rfl (zB3 (t := _) (d := 31) rfl ?_ ?_)
     ·
      intro h29; have g29 := of_decide_eq_true h29; refine zAl rfl rfl h29 (Jp (o' := 4) zCp rfl sz36 rfl rfl rfl (zAl rfl rfl h29 (Qc zE rfl hs 1 rfl rfl (zAl rfl rfl h29 (Jp (o' := 4) zCp rfl sz36 rfl rfl rfl (zAl rfl rfl h29 (Qc zE rfl hs 0 rfl rfl (zAl rfl rfl h29 (Qg en107 (eqPr_sl hs hx.eps.cons.cons hy.eps.cons.cons rfl rfl h1) ?_))))))))); clear hs; rintro _ w ⟨rfl, hs⟩; refine Ja rfl h29 rfl (J2 rfl (zB3 (t := _) (d := 38) rfl ?_ ?_))
      ·
       intro h36; refine zAl rfl rfl h36 (Jp (o' := 5) zCp rfl sz37 rfl rfl rfl (zAl rfl rfl h36 (Qc zD rfl hs 1 rfl rfl (zAl rfl rfl h36 (Jp (o' := 5) zCp rfl sz37 rfl rfl rfl (zAl rfl rfl h36 (Qc zD rfl hs 0 rfl rfl (zAl rfl rfl h36 (Qg en108 (eqOb_sl hs hx.obs.cons.cons hy.obs.cons.cons rfl rfl h2) ?_))))))))); clear hs; rintro _ w ⟨rfl, hs⟩; refine Ja rfl h36 rfl (J5 rfl (zA6 (zAe (zBi (v := .bool _) rfl rfl ?_))))
       exact ⟨_, rfl, zDr (by have e1 := of_decide_eq_true h36; exact decide_eq_decide.2 ⟨fun q => by obtain ⟨x1, x2, x3, x4, x5, x6⟩ := x; obtain ⟨y1, y2, y3, y4, y5, y6⟩ := y; simp only at *; subst g9 g15 g22 g29 e1 q; rfl, fun q => by rw [q]⟩), hs.tail.tail⟩
      ·
       intro h36; exact Qe rfl rfl h36 (Qe rfl rfl h36 (Qe rfl rfl h36 (Qe rfl rfl h36 (Qe rfl rfl h36 (J9 rfl h36 rfl (J5 rfl (zA6 (zAe (zBi (v := .bool _) rfl rfl ⟨_, rfl, zDr (decide_eq_false (fun q => of_decide_eq_false h36 (by rw [q]))).symm, hs.tail.tail⟩)))))))))
     ·
      intro h29; have g29 := of_decide_eq_false h29; refine Qe rfl rfl h29 (Qe rfl rfl h29 (Qe rfl rfl h29 (Qe rfl rfl h29 (Qe rfl rfl h29 (J9 rfl h29 rfl (J2 rfl (Qe rfl rfl rfl (Qe rfl rfl rfl (Qe rfl rfl rfl (Qe rfl rfl rfl ?_)))))))))); refine Qe rfl rfl rfl (J9 rfl rfl rfl (J5 rfl (zA6 (zAe (zBi (v := .bool _) rfl rfl ?_)))))
      exact ⟨_, rfl, zDr (decide_eq_false (fun q => g29 (by rw [q]))).symm, hs.tail.tail⟩
    ·
     intro h22; have g22 := of_decide_eq_false h22; refine Qe rfl rfl h22 (Qe rfl rfl h22 (Qe rfl rfl h22 (Qe rfl rfl h22 (Qe rfl rfl h22 (J9 rfl h22 rfl (J2 rfl (Qe rfl rfl rfl (Qe rfl rfl rfl (Qe rfl rfl rfl (Qe rfl rfl rfl ?_)))))))))); refine Qe rfl rfl rfl (J9 rfl rfl rfl (J2 rfl (Qe rfl rfl rfl (Qe rfl rfl rfl (Qe rfl rfl rfl (Qe rfl rfl rfl ?_))))))
     exact Qe rfl rfl rfl (J9 rfl rfl rfl (J5 rfl (zA6 (zAe (zBi (v := .bool _) rfl rfl ⟨_, rfl, zDr (decide_eq_false (fun q => g22 (by rw [q]))).symm, hs.tail.tail⟩)))))
   ·
    intro h15; have g15 := of_decide_eq_false h15; refine Qe rfl rfl h15 (Qe rfl rfl h15 (Qe rfl rfl h15 (Qe rfl rfl h15 (Qe rfl rfl h15 (J9 rfl h15 rfl (J2 rfl (Qe rfl rfl rfl (Qe rfl rfl rfl (Qe rfl rfl rfl (Qe rfl rfl rfl ?_)))))))))); refine Qe rfl rfl rfl (J9 rfl rfl rfl (J2 rfl (Qe rfl rfl rfl (Qe rfl rfl rfl (Qe rfl rfl rfl (Qe rfl rfl rfl ?_))))))
    refine Qe rfl rfl rfl (J9 rfl rfl rfl (J2 rfl (Qe rfl rfl rfl (Qe rfl rfl rfl (Qe rfl rfl rfl (Qe rfl rfl rfl (Qe rfl rfl rfl (J9 rfl rfl rfl (J5 rfl (zA6 ?_)))))))))); exact zAe (zBi (v := .bool _) rfl rfl ⟨_, rfl, zDr (decide_eq_false (fun q => g15 (by rw [q]))).symm, hs.tail.tail⟩)
  ·
   intro h9; have g9 := of_decide_eq_false h9; refine Qe rfl rfl h9 (Qe rfl rfl h9 (Qe rfl rfl h9 (Qe rfl rfl h9 (Qe rfl rfl h9 (J9 rfl h9 rfl (J2 rfl (Qe rfl rfl rfl (Qe rfl rfl rfl (Qe rfl rfl rfl (Qe rfl rfl rfl ?_)))))))))); refine Qe rfl rfl rfl (J9 rfl rfl rfl (J2 rfl (Qe rfl rfl rfl (Qe rfl rfl rfl (Qe rfl rfl rfl (Qe rfl rfl rfl (Qe rfl rfl rfl ?_)))))))
   refine J9 rfl rfl rfl (J2 rfl (Qe rfl rfl rfl (Qe rfl rfl rfl (Qe rfl rfl rfl (Qe rfl rfl rfl (Qe rfl rfl rfl (J9 rfl rfl rfl (J2 rfl (Qe rfl rfl rfl (Qe rfl rfl rfl ?_)))))))))); refine Qe rfl rfl rfl (Qe rfl rfl rfl (Qe rfl rfl rfl (J9 rfl rfl rfl (J5 rfl (zA6 (zAe (zBi (v := .bool _) rfl rfl ?_)))))))
   exact ⟨_, rfl, zDr (decide_eq_false (fun q => g9 (by rw [q]))).symm, hs.tail.tail⟩
theorem cloneM_sl (hs : Mem g w L) {x : Mf} {e o : SA} (hx : MfR g L x e o) (h1 : x.eps.length ≤ 1000000) (h2 : x.obs.length ≤ 1000000) : Calls Tryz.prog 46 #[.agg (mfL x e o).toArray] w (Ret fun v w' => ∃ s1 s2 : SA, v = .agg (mfL x s1 s2).toArray ∧ Mem g w' (mfP x s1 s2 ++ L)) := by
  refine zAh Tryz.func46 rfl rfl ?_
  refine zA4 (zA2 (zBp (v := .agg _) hs rfl rfl ?_)); clear hs; intro b1 w hs
  try simp only [zzs, zzz] at hs
  refine zBj hs rfl ze39 ?_; clear hs; intro b2 w hs
  try simp only [zzs, zzz] at hs
  refine zA6 (zA4 ?_); have hM := hs.drop 1; generalize hM0 : List.eraseIdx _ 1 = M0 at hM; refine zAq zBk hM ?_; intro w tr hK; replace hs := tr _ hs; clear tr; refine Q6 0 rfl (o' := 4) zCp rfl sz36 rfl rfl rfl hK (Q6 3 rfl (o' := 5) zCp rfl sz37 rfl rfl rfl hK (zAc [1, 4] ⟨⟨_, rfl, ?_⟩, ⟨_, rfl, ?_⟩, trivial⟩)); refine Qc zE rfl hs 1 rfl rfl ?_; clear hK; have hK := (show Mem g w M0 from by rw [← hM0]; first | exact hs.drop 1 | exact hs.tail.drop 1 | exact hs.tail.tail.drop 1); refine zA6 ⟨hK, ?_⟩; refine zAc [2, 4] ⟨⟨_, rfl, ?_⟩, ⟨_, rfl, ?_⟩, trivial⟩
  refine Qg en86 (clonePr_sl hs hx.eps.cons.cons rfl h1) ?_; clear hs; rintro _ w ⟨s1, rfl, hs⟩; clear hK; have hK := (show Mem g w M0 from by rw [← hM0]; first | exact hs.drop 1 | exact hs.tail.drop 1 | exact hs.tail.tail.drop 1); refine zA6 ⟨hK, ?_⟩; refine zAc [4] ⟨⟨_, rfl, ?_⟩, trivial⟩; refine Qc zD rfl hs 2 rfl rfl ?_
  rotate_left
  refine Qc zD rfl hs 1 rfl rfl ?_; clear hK; have hK := (show Mem g w M0 from by rw [← hM0]; first | exact hs.drop 1 | exact hs.tail.drop 1 | exact hs.tail.tail.drop 1); refine zA6 ⟨hK, ?_⟩; refine zAc [2] ⟨⟨_, rfl, ?_⟩, trivial⟩; refine Qg en86 (clonePr_sl hs hx.eps.cons.cons rfl h1) ?_; clear hs; rintro _ w ⟨s1, rfl, hs⟩
  rotate_left
  refine Qc zD rfl hs 1 rfl rfl ?_; clear hK; have hK := (show Mem g w M0 from by rw [← hM0]; first | exact hs.drop 1 | exact hs.tail.drop 1 | exact hs.tail.tail.drop 1); refine zA6 ⟨hK, ?_⟩; refine zAc [1] ⟨⟨_, rfl, ?_⟩, trivial⟩; refine Qc zE rfl hs 1 rfl rfl ?_; clear hK; have hK := (show Mem g w M0 from by rw [← hM0]; first | exact hs.drop 1 | exact hs.tail.drop 1 | exact hs.tail.tail.drop 1); refine zA6 ⟨hK, ?_⟩; refine zAc [2] ⟨⟨_, rfl, ?_⟩, trivial⟩; refine Qg en86 (clonePr_sl hs hx.eps.cons.cons rfl h1) ?_; clear hs; rintro _ w ⟨s1, rfl, hs⟩
  rotate_left
  all_goals
   clear hK; have hK := (show Mem g w M0 from by rw [← hM0]; first | exact hs.drop 1 | exact hs.tail.drop 1 | exact hs.tail.tail.drop 1); refine zA6 ⟨hK, ?_⟩; refine Q6 6 rfl (o' := 4) zCp rfl sz36 rfl rfl rfl hK (zAc [5] ⟨⟨_, rfl, ?_⟩, trivial⟩); refine Qg en87 (cloneOb_sl hs hx.obs.cons.cons.cons rfl h2) ?_; clear hs; rintro _ w ⟨s2, rfl, hs⟩; clear hK; have hK := (show Mem g w M0 from by rw [← hM0]; first | exact hs.drop 1 | exact hs.tail.drop 1 | exact hs.tail.tail.drop 1); refine zA6 ⟨hK, ?_⟩; refine zAc [7] ⟨⟨_, rfl, ?_⟩, trivial⟩; refine zB0 (v := .slice _ _ _) hs 3 rfl sz36 rfl rfl rfl rfl ?_; clear hs; intro w hs
   try simp only [zzs, zzz] at hs
   clear hK; have hK := (show Mem g w M0 from by rw [← hM0]; first | exact hs.drop 1 | exact hs.tail.drop 1 | exact hs.tail.tail.drop 1); refine zA6 ⟨hK, ?_⟩; refine Q6 8 rfl (o' := 5) zCp rfl sz37 rfl rfl rfl hK (zAc [9] ⟨⟨_, rfl, ?_⟩, trivial⟩); refine zB0 (v := .slice _ _ _) hs 3 rfl sz37 rfl rfl rfl rfl ?_; clear hs; intro w hs
   try simp only [zzs, zzz] at hs
   clear hK; have hK := (show Mem g w M0 from by rw [← hM0]; first | exact hs.drop 1 | exact hs.tail.drop 1 | exact hs.tail.tail.drop 1); refine zA6 ⟨hK, ?_⟩; refine zAs (by kernel_rfl) ?_; clear hK; refine zA4 (zA2 (Qa (zBd hs 3 rfl zCp zEt rfl) (zAr hs 2 rfl rfl rfl zEt rfl rfl ?_))); clear hs; intro w hs
   try simp only [zzs, zzz] at hs
   exact zA6 (zAe (resG [(.cell 2 39, .agg _)] rfl ⟨⟨_, rfl, zC3 hs 2 rfl zCp zEt⟩, trivial⟩ ⟨_, rfl, s1, s2, rfl, hs.arr [1, 0] 4 (by decide)⟩))
theorem nextE_sl (hs : Mem g w L) (s k : Int) : Calls Tryz.prog 133 #[.int .i64 s, .int .i64 k] w (Ret fun v w' => v = .bool (nextB s k) ∧ Mem g w' L) := by
  refine zAh Tryz.func133 rfl rfl ?_
  refine zA4 (zA2 (J5 rfl (zA6 (zA4 (zA4 (zA2 (J0 rfl (zA6 (zAp (zA4 (zA2 (Jw rfl rfl (J5 rfl ?_))))))))))))); refine zA6 (zB2 rfl ?_ ?_)
  ·
   intro h7; have g7 := of_decide_eq_true h7; exact zA4 (zA2 (J0 rfl (Jw rfl rfl (J5 rfl (zA6 (zAe (zBi (v := .bool _) rfl rfl ⟨_, rfl, zDr (by rw [Bool.eq_iff_iff]; simp [nextB, *]), hs⟩)))))))
  ·
   intro h7; have g7 := of_decide_eq_false h7; refine zA4 (zA2 (Jw rfl rfl (J5 rfl (zA6 (zB2 rfl ?_ ?_)))))
   ·
    intro h11; have g11 := of_decide_eq_true h11; exact zA4 (zA2 (J0 rfl (Jw rfl rfl (J5 rfl (zA6 (zAe (zBi (v := .bool _) rfl rfl ⟨_, rfl, zDr (by rw [Bool.eq_iff_iff]; simp [nextB, *]), hs⟩)))))))
   ·
    intro h11; have g11 := of_decide_eq_false h11; refine zA4 (zA2 (Jw rfl rfl (J5 rfl (zA6 (zB2 rfl ?_ ?_)))))
    ·
     intro h15; have g15 := of_decide_eq_true h15; refine zA4 (zA2 (J0 rfl (Jw rfl rfl (J2 rfl (zB3 (t := _) (d := 18) rfl ?_ ?_)))))
     ·
      intro h17; have g17 := of_decide_eq_true h17; exact Qe rfl rfl h17 (Qe rfl rfl h17 (Ja rfl h17 rfl (J5 rfl (zA6 (zAe (zBi (v := .bool _) rfl rfl ⟨_, rfl, zDr (by rw [Bool.eq_iff_iff]; simp [nextB, *]), hs⟩))))))
     ·
      intro h17; have g17 := of_decide_eq_false h17; exact zAl rfl rfl h17 (J0 rfl (zAl rfl rfl h17 (Jw rfl rfl (J9 rfl h17 rfl (J5 rfl (zA6 (zAe (zBi (v := .bool _) rfl rfl ⟨_, rfl, zDr (by rw [Bool.eq_iff_iff]; simp [nextB, *]), hs⟩))))))))
    ·
     intro h15; have g15 := of_decide_eq_false h15; refine zA4 (zA2 (Jw rfl rfl (J5 rfl (zA6 (zB2 rfl ?_ ?_)))))
     ·
      intro h23; have g23 := of_decide_eq_true h23; exact zA4 (zA2 (J0 rfl (Jw rfl rfl (J5 rfl (zA6 (zAe (zBi (v := .bool _) rfl rfl ⟨_, rfl, zDr (by rw [Bool.eq_iff_iff]; simp [nextB, *]), hs⟩)))))))
     ·
      intro h23; have g23 := of_decide_eq_false h23; exact zAd (zA4 (zA2 (J5 rfl (zA6 (zAe (zBi (v := .bool _) rfl rfl ⟨_, rfl, zDr (by rw [Bool.eq_iff_iff]; simp [nextB, *]), hs⟩))))))
end
section
theorem al_key {κ α : Type} [DecidableEq κ] {l : List (κ × α)} {k : κ} {v : α} (h : zAx l k = some v) : k ∈ zAm l := List.mem_map_of_mem (zCy h)
theorem al_of_key {κ α : Type} [DecidableEq κ] {l : List (κ × α)} {k : κ} (h : k ∈ zAm l) : ∃ v, zAx l k = some v := by
  cases hc : zAx l k with
  | some v => exact ⟨v, rfl⟩
  | none => exact absurd h ((zBe _ _).1 hc)
theorem al_in {κ α : Type} [DecidableEq κ] {l : List (κ × α)} {k : κ} {v : α} {x : κ × α} (h : x ∈ zC1 l k v) : x = (k, v) ∨ x ∈ l := by
  induction l with
  | nil => simp [zC1] at h; exact .inl h
  | cons y l ih =>
    obtain ⟨a, b⟩ := y; simp only [zC1] at h
    split at h
    · rcases List.mem_cons.1 h with h | h
      · exact .inl h
      · exact .inr (List.mem_cons_of_mem _ h)
    · rcases List.mem_cons.1 h with h | h
      · exact .inr (by rw [h]; exact List.mem_cons_self ..)
      · rcases ih h with h | h
        · exact .inl h
        · exact .inr (List.mem_cons_of_mem _ h)
theorem al_end {κ α : Type} [DecidableEq κ] {l : List (κ × α)} {k : κ} {v : α} (h : zAx l k = none) : zC1 l k v = l ++ [(k, v)] := by
  rw [zBe] at h
  induction l with
  | nil => rfl
  | cons x l ih =>
    obtain ⟨a, b⟩ := x; simp only [zAm, List.map_cons, List.mem_cons, not_or] at h; simp only [List.cons_append, zC1]; rw [if_neg (fun e => h.1 e.symm), ih h.2]
theorem al_len {κ α : Type} [DecidableEq κ] {l : List (κ × α)} {k : κ} {v u : α} (h : zAx l k = some u) : (zC1 l k v).length = l.length := by
  have := congrArg List.length (show zAm (zC1 l k v) = zAm l by rw [zF4, if_pos (al_key h)])
  simpa [zAm] using this
theorem al_del {κ α : Type} [DecidableEq κ] : ∀ {l : List (κ × α)} {k : κ} {v : α}, zAx l k = some v → (zDe l k).length + 1 = l.length
  | (a, b) :: l, k, v, h => by
    simp only [zAx] at h; simp only [zDe]
    split at h
    · rename_i e; rw [if_pos e]; simp
    · rename_i e; rw [if_neg e]; have := al_del h; simpa using this
variable {V : Vw} {k : Int} {x : Mf}
theorem Vw.ok_nil : Vw.ok [] := ⟨List.nodup_nil, (fun x h => by cases h), by simp⟩
theorem nextB_kind {s k : Int} (h : nextB s k = true) : 1 ≤ k ∧ k ≤ 4 := by
  unfold nextB at h
  split at h
  · omega
  · split at h
    · omega
    · split at h
      · omega
      · split at h
        · omega
        · cases h
theorem Vw.apply_ok (h : V.ok) (k : Int) (x : Mf) : (V.apply k x).2.ok := by
  unfold Vw.apply
  split
  · exact h
  · rename_i h1
    have h1 : (mfF x).1 = 0 := by simpa using h1
    split
    · exact h
    · rename_i h2
      split
      · exact h
      · split
        · rename_i hn
          split
          · exact h
          · rename_i h4
            refine ⟨nodup_put h.nd _ _, fun y hy => ?_, ?_⟩
            · rcases al_in hy with rfl | hy
              · exact ⟨h1, rfl, by show 1 ≤ k; omega, by show k ≤ 4; omega⟩
              · exact h.fine y hy
            · show (zC1 V x.id ⟨k, x⟩).length ≤ 4096
              rw [al_end hn]; simp only [List.length_append, List.length_cons, List.length_nil]
              omega
        · rename_i i hi
          split
          · refine ⟨nodup_put h.nd _ _, fun y hy => ?_, ?_⟩
            · rcases al_in hy with rfl | hy
              · exact ⟨h1, rfl, by show 1 ≤ k; omega, by show k ≤ 4; omega⟩
              · exact h.fine y hy
            · show (zC1 V x.id ⟨k, x⟩).length ≤ 4096
              rw [al_len hi]; exact h.few
          · exact h
end
section
open Go.RowKit
attribute [local irreducible] zAk
variable {g w : World} {L M : List HP} {ad : Nat → Addr} {p : Nat} {V : Vw}
section
variable {P : Program} {ρ : Env} {dst : Option Tmp} {ty : TypeId} {pos : String} {aft : Array Edge} {x : Operand}
theorem run_lenM {κ : Type} {enc : κ → Value} {m : Nat} {es : List (κ × Value)} {t kt et : TypeId} (hm : zF2 w enc m es) (ht : P.underlying t = some (.map kt et)) (hx : ev ρ x = .map (some m)) : (execOp (ev ρ) ⟨dst, .call { callee := .builtin .len, args := #[x], argTypes := #[t] }, ty, pos, aft, none⟩).run P w = .ok (.value (.int .i64 es.length)) w := by
  obtain ⟨arr, clock, hb, he, _⟩ := hm
  have hl : arr.size = es.length := by have := congrArg List.length he; simpa using this
  simp [execOp, resolve, invoke, builtin, Builtin.len_, run_underlying ht, hx, goInt, MapKept.run_getObj_map hb, hl]
theorem run_field1 {fs : Array Field} {f : Field} {t : TypeId} {i : Nat} {cs : Array Value} {v : Value} (ht : P.underlying t = some (.struct fs)) (hf : fs[i]? = some f) (ha : ∀ w, (isAgg f.type).run P w = .ok false w) (hx : ev ρ x = .agg cs) (hv : cs[f.offset]? = some v) : (execOp (ev ρ) ⟨dst, .field t x i, ty, pos, aft, none⟩).run P w = .ok (.value v) w := by
  have hp : (part f.type cs f.offset).run P w = .ok v w := by simp [part, ha, hv]
  simp [execOp, Instr.field, run_underlying ht, hx, hf, asAgg, hp]
end
theorem itm_inj {i : Itm} {e o e' o' : SA} (h : itmV i e o = itmV i e' o') : e = e' ∧ o = o' := by
  simp only [itmV, mfL, Value.agg.injEq, Array.mk.injEq, List.cons.injEq, Value.slice.injEq, true_and, and_true] at h
  obtain ⟨a, b⟩ := e; obtain ⟨c, d⟩ := o; obtain ⟨a', b'⟩ := e'; obtain ⟨c', d'⟩ := o'
  simp only at h; obtain ⟨⟨rfl, rfl⟩, rfl, rfl⟩ := h; exact ⟨rfl, rfl⟩
theorem Mem.itmAt {es : List (Int × Value)} (hs : Mem g w L) (k : Nat) (hk : L[k]? = some (famC itmC es V)) {id : Int} {i : Itm} (hV : zAx V id = some i) : ∃ e o, zAx es id = some (itmV i e o) ∧ MfR g L i.m e o := by
  obtain ⟨v, hv⟩ := fam_some (hs.famKeys k hk) hV; have h1 := hs.famTake k hk hv hV; obtain ⟨e, o, rfl, _⟩ := h1.openItm; refine ⟨e, o, hv, ⟨Ens.fam k hk hv hV fun F w h => ?_, Ens.fam k hk hv hV fun F w h => ?_⟩⟩
  · obtain ⟨⟨e', o'⟩, h2, h3⟩ := h
    obtain ⟨rfl, rfl⟩ := itm_inj h3; obtain ⟨F1, F2, h4, _⟩ := h2; exact h4.1.rows
  · obtain ⟨⟨e', o'⟩, h2, h3⟩ := h
    obtain ⟨rfl, rfl⟩ := itm_inj h3; obtain ⟨F1, F2, _, h5, _⟩ := h2; obtain ⟨F3, F4, h6, _⟩ := h5; exact h6.1.rows
theorem mf_len {x : Mf} (h : (mfF x).1 = 0) : x.eps.length ≤ 256 ∧ x.obs.length ≤ 8 := by
  unfold mfF at h
  split at h
  · cases h
  · split at h
    · rename_i h1; exact absurd h h1
    · rename_i h1
      split at h
      · cases h
      · refine ⟨epF_len (by simpa using h1), ?_⟩
        unfold obF at h
        split at h
        · cases h
        · omega
theorem Vw.ok.item (h : V.ok) {id : Int} {i : Itm} (hi : zAx V id = some i) : (mfF i.m).1 = 0 ∧ i.m.id = id ∧ 1 ≤ i.st ∧ i.st ≤ 4 ∧ i.m.obs.length ≤ 8 ∧ i.m.eps.length ≤ 256 := by
  have h1 := h.fine _ (zCy hi); have h2 := mf_len h1.1; exact ⟨h1.1, h1.2.1, h1.2.2.1, h1.2.2.2, h2.2, h2.1⟩
theorem newv_sl (hs : Mem g w L) : Calls Tryz.prog 74 #[] w (Ret fun v w' => ∃ p, v = .pointer (some ⟨p, 0, none⟩) ∧ Mem g w' (ViewC p [] :: L)) := by
  refine zAh Tryz.func74 rfl rfl ?_
  refine zA4 (zA2 (Jf rfl (zA6 (zA4 (zA2 (zFp (Value.int .i64) hs rfl ?_)))))); clear hs; intro m1 w hs
  try simp only [zzs, zzz] at hs
  refine Qa (zBg ([.map (some m1)]) uz131 ze131 pl131 rfl (by simp [Value.cells]) rfl rfl) (zBp (v := .agg _) hs rfl rfl ?_); clear hs; intro b3 w hs
  try simp only [zzs, zzz] at hs
  exact Jd rfl (zA6 (zAe (zBi (v := .pointer (some _)) rfl rfl ⟨_, rfl, b3, rfl, Mem.closeV (es := []) Vw.ok_nil ((hs.addE (famC_nil (R := itmC) (κ := Int) _)).arr [1, 2, 0] 3 (by decide))⟩)))
theorem state_sl (hs : Mem g w (ViewC p V :: L)) (id : Int) : Calls Tryz.prog 20 #[.pointer (some ⟨p, 0, none⟩), .int .i64 id] w (Ret fun v w' => v = .int .i64 (V.state id) ∧ Mem g w' (ViewC p V :: L)) := by
  obtain ⟨ho, m, es, hs⟩ := hs.openV; simp only [viewP, List.cons_append, List.nil_append] at hs
  cases hV : zAx V id with
  | none =>
    have hes := fam_none (hs.famKeys 2 rfl) hV; refine zAh Tryz.func20 rfl rfl ?_
    refine zA4 (zA2 (J4 rfl (zA6 (zA4 (zA2 (J1 rfl (Jx rfl (Jp (o' := 0) uz131 rfl sz129 rfl rfl rfl (Qc uz129 rfl hs 0 rfl rfl (J0 rfl (Qa (zDx (hs.mapAt 1 rfl) zE9 uz129 uz3 ze128 rfl rfl (o := none) hes) (Qa (run_field1 (v := .int .i64 0) uz128 rfl Tryz.isAgg3 rfl rfl) (J4 rfl ?_))))))))))))); refine zA6 (zAe (zBi (v := .int .i64 _) rfl rfl ?_)); exact ⟨_, rfl, by simp [Vw.state, hV], Mem.closeV ho hs⟩
  | some i =>
    obtain ⟨e, o, hes, _⟩ := hs.itmAt 2 rfl hV; refine zAh Tryz.func20 rfl rfl ?_
    refine zA4 (zA2 (J4 rfl (zA6 (zA4 (zA2 (J1 rfl (Jx rfl (Jp (o' := 0) uz131 rfl sz129 rfl rfl rfl (Qc uz129 rfl hs 0 rfl rfl (J0 rfl (Qa (zDx (hs.mapAt 1 rfl) zE9 uz129 uz3 ze128 rfl rfl (o := some (itmV i e o)) hes) (Qa (run_field1 (v := .int .i64 i.st) uz128 rfl Tryz.isAgg3 rfl rfl) (J4 rfl ?_))))))))))))); refine zA6 (zAe (zBi (v := .int .i64 _) rfl rfl ?_))
    exact ⟨_, rfl, by simp [Vw.state, hV], Mem.closeV ho hs⟩
structure RfI (V : Vw) (es left : List (Int × Value)) (n : ByteArray) : Prop where
  nd : (zAm left).Nodup
  sub : ∀ k v, zAx left k = some v → zAx es k = some v
  seen : ∀ k i, zAx V k = some i → zAx left k = none → refersB i n = false
theorem RfI.step {es left : List (Int × Value)} {n : ByteArray} (h : RfI V es left n) {k : Int} {i : Itm} (hV : zAx V k = some i) (hr : refersB i n = false) : RfI V es (zDe left k) n := by
  refine ⟨nodup_del h.nd k, fun j v hj => ?_, fun j u hu hj => ?_⟩
  · by_cases e : j = k
    · subst e; rw [zCw h.nd] at hj; cases hj
    · rw [zCu _ e] at hj; exact h.sub j v hj
  · by_cases e : j = k
    · subst e; rw [hV] at hu; cases hu; exact hr
    · rw [zCu _ e] at hj; exact h.seen j u hu hj
end
section
open Go.RowKit
variable {g w : World} {L M : List HP} {ad : Nat → Addr} {p : Nat}
theorem fill_km (k a b c d : Int) (e o : SA) (n m : Nat) : Instr.fill ((#[(0, 1), (1, 6)] : Array (Nat × Nat))[·]?) #[.int .i64 0, .int .i64 0, .int .i64 0, .int .i64 0, .int .i64 0, .slice none 0 0, .slice none 0 0] [(0, .int .i64 k), (1, .agg #[.int .i64 a, .int .i64 b, .int .i64 c, .int .i64 d, .slice e.1 n e.2, .slice o.1 m o.2])] = some #[.int .i64 k, .int .i64 a, .int .i64 b, .int .i64 c, .int .i64 d, .slice e.1 n e.2, .slice o.1 m o.2] := by
  kernel_rfl
variable {ρ : Env} {dst : Option Tmp} {ty : TypeId} {pos : String} {aft : Array Edge} {x y : Operand}
theorem zG0 {P : Program} {t : TypeId} {fs : Array Field} {k : Int} {m : Mf} {e o : SA} (ht : P.underlying t = some (.struct fs)) (hz : (P.info? t).map (·.zero) = some (some (.agg #[.int .i64 0, .int .i64 0, .int .i64 0, .int .i64 0, .int .i64 0, .slice none 0 0, .slice none 0 0])))
    (hp : ∀ w, (fs.mapM (m := Sem) fun f => do pure (f.offset, ← sizeOf f.type)).run P w = .ok #[(0, 1), (1, 6)] w) (hx : ev ρ x = .int .i64 k) (hy : ev ρ y = .agg (mfL m e o).toArray) :
    (execOp (ev ρ) ⟨dst, .build t #[(0, x), (1, y)], ty, pos, aft, none⟩).run P w = .ok (.value (.agg (.int .i64 k :: mfL m e o).toArray)) w := by
  refine zBw (ps := [(0, x), (1, y)]) ht hz hp ?_; simp only [List.map_cons, List.map_nil, hx, hy]; exact fill_km k m.id m.base m.fin m.time e o _ _
end
section
open Go.RowKit
attribute [local irreducible] zAk
variable {g w : World} {L M : List HP} {ad : Nat → Addr} {p : Nat} {V : Vw}
def ApR (g : World) (ad : Nat → Addr) (L : List HP) (p : Nat) (r : Flt × Vw) (v : Value) (w' : World) : Prop := ∃ eb, v = flV ad r.1 eb ∧ Mem g w' (flC ad r.1 eb :: ViewC p r.2 :: L)
theorem ApR.bare {c : Nat} (hs : Mem g w (ViewC p V :: L)) : ApR g ad L p ((c, none), V) (zAk ad c) w := ⟨0, rfl, hs.addE (emp_okF w)⟩
theorem Vw.apply_bad {k : Int} {x : Mf} (h : (mfF x).1 ≠ 0) : V.apply k x = (mfF x, V) := by rw [Vw.apply, if_pos h]
theorem Vw.apply_kind {k : Int} {x : Mf} (h : (mfF x).1 = 0) (h2 : k < 1 ∨ 4 < k) : V.apply k x = ((112, none), V) := by rw [Vw.apply, if_neg (by simpa using h), if_pos h2]
theorem Vw.apply_state {k : Int} {x : Mf} (h : (mfF x).1 = 0) (h2 : ¬ (k < 1 ∨ 4 < k)) (h3 : nextB (V.state x.id) k = false) : V.apply k x = ((113, none), V) := by rw [Vw.apply, if_neg (by simpa using h), if_neg h2, if_pos h3]
theorem Vw.apply_new {k : Int} {x : Mf} (h : (mfF x).1 = 0) (h2 : ¬ (k < 1 ∨ 4 < k)) (h3 : nextB (V.state x.id) k = true) (hV : zAx V x.id = none) : V.apply k x = if 4096 ≤ V.length then ((104, none), V) else ((0, none), zC1 V x.id ⟨k, x⟩) := by rw [Vw.apply, if_neg (by simpa using h), if_neg h2, if_neg (by rw [h3]; decide), hV]
theorem Vw.apply_old {k : Int} {x : Mf} {i : Itm} (h : (mfF x).1 = 0) (h2 : ¬ (k < 1 ∨ 4 < k)) (h3 : nextB (V.state x.id) k = true) (hV : zAx V x.id = some i) : V.apply k x = if i.m = x then ((0, none), zC1 V x.id ⟨k, x⟩) else ((103, none), V) := by rw [Vw.apply, if_neg (by simpa using h), if_neg h2, if_neg (by rw [h3]; decide), hV]
theorem flt0 {f : Flt} (hf : FltOk f) (h : f.1 = 0) : f = (0, none) := by
  rcases hf.1 with h1 | h1
  · exact h1
  · rw [h] at h1; simp at h1
set_option maxHeartbeats 1000000 in
theorem apply_sl (hE : ErrV ad g) (hs : Mem g w (ViewC p V :: L)) (k : Int) {x : Mf} {e o : SA} (hm : MfR g L x e o) (hob : x.obs.length ≤ 1000000) : Calls Tryz.prog 93 #[.pointer (some ⟨p, 0, none⟩), .agg (.int .i64 k :: mfL x e o).toArray] w (Ret (ApR g ad L p (V.apply k x))) := by
  obtain ⟨ho, m, es, hs⟩ := hs.openV; simp only [viewP, List.cons_append, List.nil_append] at hs; have hke := hs.famKeys 2 rfl
  cases hV : zAx V x.id with
  | none =>
    have hes := fam_none hke hV
    have hst : V.state x.id = 0 := by simp [Vw.state, hV]
    refine zAh Tryz.func93 rfl rfl ?_
    refine zA4 (zA2 (zBp (v := .agg _) hs rfl rfl ?_)); clear hs; intro b3 w hs
    try simp only [zzs, zzz] at hs
    refine J3 rfl (zA6 (zA4 (zA4 (zA2 (Jp (o' := 1) zE1 rfl zEt rfl rfl rfl (Qa (zCj hs 0 (mfL x e o) rfl zCp zEt rfl rfl) (Qg en45 (validM_sl hE hs hm.cons.cons.cons.cons hob) ?_))))))); clear hs; rintro _ w ⟨eb, rfl, hs⟩; refine Jl (v := flV ad _ _) rfl (zA6 (zA4 (zA2 (Jm (v := flV ad _ _) rfl (Qa (run_neF (mfF_ok x).place rfl) (zA6 (zB2 rfl ?_ ?_)))))))
    ·
     intro h12; have g12 := zFj h12; refine zA4 (zA2 (Jm (v := flV ad _ _) rfl (Jl (v := flV ad _ _) rfl (zA6 (zAe (zBi (v := flV ad _ _) rfl rfl ?_))))))
     have h0 : (mfF x).1 ≠ 0 := by simpa using h12
     rw [Vw.apply_bad h0]; exact ⟨_, rfl, eb, rfl, Mem.closeV1 ho (hs.arr [0, 2, 3, 4] 5 (by decide))⟩
    ·
     intro h12; have g12 := zFi h12
     have h0 : (mfF x).1 = 0 := by simpa using h12
     replace hs := hs.tail; refine zAd (zA4 (zA4 (zA2 (Jp (o' := 0) zE1 rfl sz3 rfl rfl rfl (Qc uz3 rfl hs 0 rfl rfl (Jn rfl rfl (J2 rfl (zB3 (t := _) (d := 17) rfl ?_ ?_))))))))
     ·
      intro h16; have g16 := of_decide_eq_true h16; refine Qe rfl rfl h16 (Qe rfl rfl h16 (Qe rfl rfl h16 (Ja rfl h16 rfl (zA6 (zBc rfl rfl (zA4 (zA2 (Jq zCq rfl rfl (hE.cellW hs 112 (by decide) rfl) (J6 rfl (zA6 (zAe ?_))))))))))); refine zBi (v := zAk ad _) rfl rfl ?_; rw [Vw.apply_kind h0 (by omega)]; exact ⟨_, rfl, ApR.bare (Mem.closeV ho hs.tail)⟩
     ·
      intro h16; have g16 := of_decide_eq_false h16; refine zAl rfl rfl h16 (Jp (o' := 0) zE1 rfl sz3 rfl rfl rfl (zAl rfl rfl h16 (Qc uz3 rfl hs 0 rfl rfl (zAl rfl rfl h16 (Jt rfl rfl (J9 rfl h16 rfl (zA6 (zB2 rfl ?_ ?_))))))))
      ·
       intro h20; have g20 := of_decide_eq_true h20; refine zA4 (zA2 (Jq zCq rfl rfl (hE.cellW hs 112 (by decide) rfl) (J6 rfl (zA6 (zAe (zBi (v := zAk ad _) rfl rfl ?_)))))); rw [Vw.apply_kind h0 (by omega)]; exact ⟨_, rfl, ApR.bare (Mem.closeV ho hs.tail)⟩
      ·
       intro h20; have g20 := of_decide_eq_false h20; refine zAd (zA4 (zAq zBk hs ?_)); intro w tr hK; replace hs := tr _ hs; clear tr; refine Q0 0 rfl rfl hK (Q7 1 rfl rfl hK (Q6 2 rfl (o' := 0) uz131 rfl sz129 rfl rfl rfl hK (Qd 3 rfl uz129 rfl (fun w hs => hs.cellAt 1 rfl rfl) hK (Q6 4 rfl (o' := 1) zE1 rfl zEt rfl rfl rfl hK (Q6 5 rfl zCp rfl sz3 rfl rfl rfl hK (Qd 6 rfl uz3 rfl (fun w hs => hs.cellAt 0 rfl rfl) hK ?_))))))
       refine Qb 7 rfl (fun w hs => zE2 (hs.mapAt 2 rfl) zE9 uz129 uz3 ze128 rfl rfl (o := none) hes) hK (Q4 8 rfl (v := .tuple _) rfl hK (Q8 9 rfl (v := .agg _) rfl rfl hK (Q8 10 rfl (v := .bool _) rfl rfl hK (zAc [11] ⟨⟨_, rfl, ?_⟩, trivial⟩)))); refine zBj hs rfl ze128 ?_; clear hs; intro b6 w hs
       try simp only [zzs, zzz] at hs
       clear hK; have hK := hs.tail; refine zA6 ⟨hK, ?_⟩; refine zAc [12] ⟨⟨_, rfl, ?_⟩, trivial⟩; refine zAr hs 0 rfl rfl rfl sz128 rfl rfl ?_; clear hs; intro w hs
       try simp only [zzs, zzz] at hs
       clear hK; have hK := hs.tail; refine zA6 ⟨hK, ?_⟩; refine Q5 13 rfl (v := .bool _) rfl hK (zAs (by kernel_rfl) ?_); clear hK; refine zA4 (zAp (zA4 (zA2 (Jp (o' := 0) uz128 rfl sz3 rfl rfl rfl (Qc uz3 rfl hs 0 rfl rfl (Jp (o' := 0) zE1 rfl sz3 rfl rfl rfl (Qc uz3 rfl hs 1 rfl rfl (Qg en133 (nextE_sl hs 0 k) ?_)))))))); clear hs; rintro _ w ⟨rfl, hs⟩; refine Jr rfl (J5 rfl (zA6 (zB2 rfl ?_ ?_)))
       ·
        intro h39; replace h39 := zFc h39; refine zA4 (zA2 (Jq zCq rfl rfl (hE.cellW hs 113 (by decide) rfl) (J6 rfl (zA6 (zAe (zBi (v := zAk ad _) rfl rfl ?_)))))); rw [Vw.apply_state h0 (by omega) (by rw [hst]; exact h39)]; exact ⟨_, rfl, ApR.bare (Mem.closeV ho hs.tail.tail)⟩
       ·
        intro h39; replace h39 := zEr h39; refine zA4 (zA2 (J2 rfl (Jr rfl (J2 rfl (zAl rfl rfl (zCs (rfl)) (J1 rfl (zAl rfl rfl (zCs (rfl)) (Jx rfl (zAl rfl rfl (zCs (rfl)) (Jp (o' := 0) uz131 rfl sz129 rfl rfl rfl (zAl rfl rfl (zCs (rfl)) ?_))))))))))); refine Qc uz129 rfl hs 2 rfl rfl (zAl rfl rfl (zCs (rfl)) (Qa (run_lenM (hs.mapAt 3 rfl) uz129 rfl) (zAl rfl rfl (zCs (rfl)) (Qa (zD5 rfl rfl) ?_))))
        refine Ja rfl (zCs (rfl)) rfl (J5 rfl (zA6 (zB2 rfl ?_ ?_)))
        ·
         intro h51; have g51 := of_decide_eq_true h51; refine zA4 (zA2 (Jq zCq rfl rfl (hE.cellW hs 104 (by decide) rfl) (J6 rfl (zA6 (zAe (zBi (v := zAk ad _) rfl rfl ?_)))))); have hl := keys_len hke; rw [Vw.apply_new h0 (by omega) (by rw [hst]; exact h39) hV, if_pos (by omega)]; exact ⟨_, rfl, ApR.bare (Mem.closeV ho hs.tail.tail)⟩
        ·
         intro h51; have g51 := of_decide_eq_false h51; refine zA4 (zA2 (J2 rfl (J2 rfl (Qe rfl rfl (rfl) (Qe rfl rfl (rfl) (Qe rfl rfl (rfl) (Qe rfl rfl (rfl) (Qe rfl rfl (rfl) (Qe rfl rfl (rfl) (J9 rfl (rfl) rfl (J5 rfl ?_))))))))))); refine zA6 (zAz rfl rfl (zAd (zA4 (zAq zBk (hs.drop 3) ?_)))); intro w tr hK; replace hs := tr _ hs; clear tr; refine Q0 0 rfl rfl hK ?_
         refine Q7 1 rfl rfl hK (Q6 2 rfl (o' := 0) uz131 rfl sz129 rfl rfl rfl hK (Qd 3 rfl uz129 rfl (fun w hs => hs.cellAt 2 rfl rfl) hK (Q6 4 rfl (o' := 1) zE1 rfl zEt rfl rfl rfl hK (Q6 5 rfl zCp rfl sz3 rfl rfl rfl hK (Qd 6 rfl uz3 rfl (fun w hs => hs.cellAt 1 rfl rfl) hK (Q6 7 rfl (o' := 0) zE1 rfl sz3 rfl rfl rfl hK (Qd 8 rfl uz3 rfl (fun w hs => hs.cellAt 1 rfl rfl) hK ?_)))))))
         refine Q6 9 rfl (o' := 1) zE1 rfl zEt rfl rfl rfl hK (Qb 10 rfl (fun w hs => zCj hs 1 (mfL x e o) rfl zCp zEt rfl rfl) hK (zAc [11] ⟨⟨_, rfl, ?_⟩, trivial⟩)); refine Qg en46 (cloneM_sl hs hm.cons.cons.cons.cons.cons (by have := mf_len h0; omega) (by have := mf_len h0; omega)) ?_; clear hs; rintro _ w ⟨s1, s2, rfl, hs⟩; clear hK; have hK := hs.tail.tail.drop 3; refine zA6 ⟨hK, ?_⟩; refine @zFs _ _ _ _ _ _ _ _ _ _ _ _ _ _ 12 _ rfl (by kernel_rfl) (by kernel_rfl) (by kernel_rfl) rfl (fun w hs => zG0 (k := k) (m := x) (e := s1) (o := s2) uz128 ze128 pl128 rfl rfl) hK (zAc [13] ?_)
         refine ⟨⟨_, rfl, ?_⟩, trivial⟩; refine zDq (v := .agg _) hs 5 rfl zE9 uz129 uz3 rfl rfl rfl ?_; clear hs; intro w hs
         try simp only [zzs, zzz] at hs
         clear hK; have hK := hs.tail.tail.drop 3; refine zA6 ⟨hK, ?_⟩; refine zAs (by kernel_rfl) ?_; clear hK; refine zA4 (zA2 (J3 rfl (zA6 (zAe (zBi (v := .nilIface) rfl rfl ?_))))); rw [Vw.apply_new h0 (by omega) (by rw [hst]; exact h39) hV, if_neg (by have := keys_len hke; omega)]; have h1 := Mem.closeItm (i := ⟨k, x⟩) (hs.arr [0, 1, 4, 5, 6] 7 (by decide)); have h2 := Mem.famPut (R := itmC) (k := x.id) h1 2 rfl (fun _ h => False.elim h); have hok := Vw.apply_ok ho k x; rw [Vw.apply_new h0 (by omega) (by rw [hst]; exact h39) hV, if_neg (by have := keys_len hke; omega)] at hok
         exact ⟨_, rfl, by rw [← zB ad]; exact ApR.bare (Mem.closeV hok h2)⟩
  | some i =>
    obtain ⟨ei, oi, hes, hmi⟩ := hs.itmAt 2 rfl hV; have hit := ho.item hV
    have hst : V.state x.id = i.st := by simp [Vw.state, hV]
    refine zAh Tryz.func93 rfl rfl ?_
    refine zA4 (zA2 (zBp (v := .agg _) hs rfl rfl ?_)); clear hs; intro b3 w hs
    try simp only [zzs, zzz] at hs
    refine J3 rfl (zA6 (zA4 (zA4 (zA2 (Jp (o' := 1) zE1 rfl zEt rfl rfl rfl (Qa (zCj hs 0 (mfL x e o) rfl zCp zEt rfl rfl) (Qg en45 (validM_sl hE hs hm.cons.cons.cons.cons hob) ?_))))))); clear hs; rintro _ w ⟨eb, rfl, hs⟩; refine Jl (v := flV ad _ _) rfl (zA6 (zA4 (zA2 (Jm (v := flV ad _ _) rfl (Qa (run_neF (mfF_ok x).place rfl) (zA6 (zB2 rfl ?_ ?_)))))))
    ·
     intro h12; have g12 := zFj h12; refine zA4 (zA2 (Jm (v := flV ad _ _) rfl (Jl (v := flV ad _ _) rfl (zA6 (zAe (zBi (v := flV ad _ _) rfl rfl ?_))))))
     have h0 : (mfF x).1 ≠ 0 := by simpa using h12
     rw [Vw.apply_bad h0]; exact ⟨_, rfl, eb, rfl, Mem.closeV1 ho (hs.arr [0, 2, 3, 4] 5 (by decide))⟩
    ·
     intro h12; have g12 := zFi h12
     have h0 : (mfF x).1 = 0 := by simpa using h12
     replace hs := hs.tail; refine zAd (zA4 (zA4 (zA2 (Jp (o' := 0) zE1 rfl sz3 rfl rfl rfl (Qc uz3 rfl hs 0 rfl rfl (Jn rfl rfl (J2 rfl (zB3 (t := _) (d := 17) rfl ?_ ?_))))))))
     ·
      intro h16; have g16 := of_decide_eq_true h16; refine Qe rfl rfl h16 (Qe rfl rfl h16 (Qe rfl rfl h16 (Ja rfl h16 rfl (zA6 (zBc rfl rfl (zA4 (zA2 (Jq zCq rfl rfl (hE.cellW hs 112 (by decide) rfl) (J6 rfl (zA6 (zAe ?_))))))))))); refine zBi (v := zAk ad _) rfl rfl ?_; rw [Vw.apply_kind h0 (by omega)]; exact ⟨_, rfl, ApR.bare (Mem.closeV ho hs.tail)⟩
     ·
      intro h16; have g16 := of_decide_eq_false h16; refine zAl rfl rfl h16 (Jp (o' := 0) zE1 rfl sz3 rfl rfl rfl (zAl rfl rfl h16 (Qc uz3 rfl hs 0 rfl rfl (zAl rfl rfl h16 (Jt rfl rfl (J9 rfl h16 rfl (zA6 (zB2 rfl ?_ ?_))))))))
      ·
       intro h20; have g20 := of_decide_eq_true h20; refine zA4 (zA2 (Jq zCq rfl rfl (hE.cellW hs 112 (by decide) rfl) (J6 rfl (zA6 (zAe (zBi (v := zAk ad _) rfl rfl ?_)))))); rw [Vw.apply_kind h0 (by omega)]; exact ⟨_, rfl, ApR.bare (Mem.closeV ho hs.tail)⟩
      ·
       intro h20; have g20 := of_decide_eq_false h20; refine zAd (zA4 (zAq zBk hs ?_)); intro w tr hK; replace hs := tr _ hs; clear tr; refine Q0 0 rfl rfl hK (Q7 1 rfl rfl hK (Q6 2 rfl (o' := 0) uz131 rfl sz129 rfl rfl rfl hK (Qd 3 rfl uz129 rfl (fun w hs => hs.cellAt 1 rfl rfl) hK (Q6 4 rfl (o' := 1) zE1 rfl zEt rfl rfl rfl hK (Q6 5 rfl zCp rfl sz3 rfl rfl rfl hK (Qd 6 rfl uz3 rfl (fun w hs => hs.cellAt 0 rfl rfl) hK ?_))))))
       refine Qb 7 rfl (fun w hs => zE2 (hs.mapAt 2 rfl) zE9 uz129 uz3 ze128 rfl rfl (o := some (itmV i ei oi)) hes) hK (Q4 8 rfl (v := .tuple _) rfl hK (Q8 9 rfl (v := .agg _) rfl rfl hK (Q8 10 rfl (v := .bool _) rfl rfl hK (zAc [11] ⟨⟨_, rfl, ?_⟩, trivial⟩)))); refine zBj hs rfl ze128 ?_; clear hs; intro b6 w hs
       try simp only [zzs, zzz] at hs
       clear hK; have hK := hs.tail; refine zA6 ⟨hK, ?_⟩; refine zAc [12] ⟨⟨_, rfl, ?_⟩, trivial⟩; refine zAr hs 0 rfl rfl rfl sz128 rfl rfl ?_; clear hs; intro w hs
       try simp only [zzs, zzz] at hs
       clear hK; have hK := hs.tail; refine zA6 ⟨hK, ?_⟩; refine Q5 13 rfl (v := .bool _) rfl hK (zAs (by kernel_rfl) ?_); clear hK; refine zA4 (zAp (zA4 (zA2 (Jp (o' := 0) uz128 rfl sz3 rfl rfl rfl (Qc uz3 rfl hs 0 rfl rfl (Jp (o' := 0) zE1 rfl sz3 rfl rfl rfl (Qc uz3 rfl hs 1 rfl rfl (Qg en133 (nextE_sl hs i.st k) ?_)))))))); clear hs; rintro _ w ⟨rfl, hs⟩; refine Jr rfl (J5 rfl (zA6 (zB2 rfl ?_ ?_)))
       ·
        intro h39; replace h39 := zFc h39; refine zA4 (zA2 (Jq zCq rfl rfl (hE.cellW hs 113 (by decide) rfl) (J6 rfl (zA6 (zAe (zBi (v := zAk ad _) rfl rfl ?_)))))); rw [Vw.apply_state h0 (by omega) (by rw [hst]; exact h39)]; exact ⟨_, rfl, ApR.bare (Mem.closeV ho hs.tail.tail)⟩
       ·
        intro h39; replace h39 := zEr h39; refine zA4 (zA2 (J2 rfl (Jr rfl (J2 rfl (Qe rfl rfl (zBt (rfl)) (Qe rfl rfl (zBt (rfl)) (Qe rfl rfl (zBt (rfl)) (Qe rfl rfl (zBt (rfl)) (Qe rfl rfl (zBt (rfl)) (Qe rfl rfl (zBt (rfl)) (J9 rfl (zBt (rfl)) rfl ?_))))))))))); refine J5 rfl (zA6 (zAz rfl rfl (zA4 (zA2 (J2 rfl (J2 rfl (zAl rfl rfl (rfl) ?_)))))))
        refine Jp (o' := 1) uz128 rfl zEt rfl rfl rfl (zAl rfl rfl (rfl) (Qa (zCj hs 0 (mfL i.m ei oi) rfl zCp zEt rfl rfl) (zAl rfl rfl (rfl) (Jp (o' := 1) zE1 rfl zEt rfl rfl rfl (zAl rfl rfl (rfl) (Qa (zCj hs 1 (mfL x e o) rfl zCp zEt rfl rfl) (zAl rfl rfl (rfl) (Qg en67 (sameM_sl hs hmi.cons.cons hm.cons.cons.cons.cons.cons (by omega) (by omega)) ?_)))))))); clear hs; rintro _ w ⟨rfl, hs⟩; refine zAl rfl rfl (rfl) (Jr rfl (Ja rfl (rfl) rfl (J5 rfl (zA6 (zB2 rfl ?_ ?_)))))
        ·
         intro h61; replace h61 := zFc h61; refine zA4 (zA2 (Jq zCq rfl rfl (hE.cellW hs 103 (by decide) rfl) (J6 rfl (zA6 (zAe (zBi (v := zAk ad _) rfl rfl ?_)))))); rw [Vw.apply_old h0 (by omega) (by rw [hst]; exact h39) hV, if_neg (of_decide_eq_false h61)]; exact ⟨_, rfl, ApR.bare (Mem.closeV ho hs.tail.tail)⟩
        ·
         intro h61; replace h61 := zEr h61; refine zAd (zA4 (zAq zBk (hs.drop 3) ?_)); intro w tr hK; replace hs := tr _ hs; clear tr; refine Q0 0 rfl rfl hK (Q7 1 rfl rfl hK (Q6 2 rfl (o' := 0) uz131 rfl sz129 rfl rfl rfl hK (Qd 3 rfl uz129 rfl (fun w hs => hs.cellAt 2 rfl rfl) hK (Q6 4 rfl (o' := 1) zE1 rfl zEt rfl rfl rfl hK (Q6 5 rfl zCp rfl sz3 rfl rfl rfl hK (Qd 6 rfl uz3 rfl (fun w hs => hs.cellAt 1 rfl rfl) hK ?_))))))
         refine Q6 7 rfl (o' := 0) zE1 rfl sz3 rfl rfl rfl hK (Qd 8 rfl uz3 rfl (fun w hs => hs.cellAt 1 rfl rfl) hK (Q6 9 rfl (o' := 1) zE1 rfl zEt rfl rfl rfl hK (Qb 10 rfl (fun w hs => zCj hs 1 (mfL x e o) rfl zCp zEt rfl rfl) hK (zAc [11] ⟨⟨_, rfl, ?_⟩, trivial⟩)))); refine Qg en46 (cloneM_sl hs hm.cons.cons.cons.cons.cons (by have := mf_len h0; omega) (by have := mf_len h0; omega)) ?_; clear hs; rintro _ w ⟨s1, s2, rfl, hs⟩; clear hK; have hK := hs.tail.tail.drop 3; refine zA6 ⟨hK, ?_⟩
         refine @zFs _ _ _ _ _ _ _ _ _ _ _ _ _ _ 12 _ rfl (by kernel_rfl) (by kernel_rfl) (by kernel_rfl) rfl (fun w hs => zG0 (k := k) (m := x) (e := s1) (o := s2) uz128 ze128 pl128 rfl rfl) hK (zAc [13] ⟨⟨_, rfl, ?_⟩, trivial⟩); refine zDq (v := .agg _) hs 5 rfl zE9 uz129 uz3 rfl rfl rfl ?_; clear hs; intro w hs
         try simp only [zzs, zzz] at hs
         clear hK; have hK := hs.tail.tail.drop 3; refine zA6 ⟨hK, ?_⟩; refine zAs (by kernel_rfl) ?_; clear hK; refine zA4 (zA2 (J3 rfl (zA6 (zAe (zBi (v := .nilIface) rfl rfl ?_))))); rw [Vw.apply_old h0 (by omega) (by rw [hst]; exact h39) hV, if_pos (of_decide_eq_true h61)]; have h1 := Mem.closeItm (i := ⟨k, x⟩) (hs.arr [0, 1, 4, 5, 6] 7 (by decide)); have h2 := Mem.famPut (R := itmC) (k := x.id) h1 2 rfl (fun _ h => False.elim h); have hok := Vw.apply_ok ho k x; rw [Vw.apply_old h0 (by omega) (by rw [hst]; exact h39) hV, if_pos (of_decide_eq_true h61)] at hok
         exact ⟨_, rfl, by rw [← zB ad]; exact ApR.bare (Mem.closeV hok h2)⟩
end
section
open Go.RowKit
variable {w : World}
theorem run_max {P : Program} {ρ : Env} {dst : Option Tmp} {ty : TypeId} {pos : String} {aft : Array Edge} {x y : Operand} {ts : Array TypeId} {k : IntKind} {a b : Int} (hx : ev ρ x = .int k a) (hy : ev ρ y = .int k b) : (execOp (ev ρ) ⟨dst, .call { callee := .builtin .max, args := #[x, y], argTypes := ts }, ty, pos, aft, none⟩).run P w = .ok (.value (.int k (max a b))) w := by
  have : (if a < b then b else a) = max a b := by
    rw [Int.max_def]; split <;> split <;> omega
  simp [execOp, resolve, invoke, builtin, Builtin.max_, hx, hy, Builtin.max2, this]
end
section
open Go.RowKit
attribute [local irreducible] zAk
variable {g w : World} {L M : List HP} {ad : Nat → Addr} {p : Nat} {V : Vw}
def Vw.top : Vw → Int
  | [] => 0
  | x :: V => max (x.1 + 1) (Vw.top V)
theorem mf_id {x : Mf} (h : (mfF x).1 = 0) : 0 ≤ x.id ∧ x.id ≤ 2147483647 := by
  unfold mfF at h
  split at h
  · cases h
  · rename_i h1
    simp only [zBl, Bool.or_eq_true, decide_eq_true_eq, not_or] at h1
    omega
theorem Vw.ok.ids (h : V.ok) {k : Int} (hk : k ∈ zAm V) : 0 ≤ k ∧ k ≤ 2147483647 := by
  obtain ⟨x, hx, rfl⟩ := List.mem_map.1 hk; have h1 := h.fine x hx; have := mf_id h1.1; rw [h1.2.1] at this; exact this
structure NxI (V : Vw) (es left : List (Int × Value)) (m : Int) : Prop where
  nd : (zAm left).Nodup
  sub : ∀ k v, zAx left k = some v → zAx es k = some v
  ge : ∀ k ∈ zAm V, zAx left k = none → k + 1 ≤ m
  has : m = 0 ∨ ∃ k ∈ zAm V, m = k + 1
theorem NxI.step {es left : List (Int × Value)} {m : Int} (h : NxI V es left m) {k : Int} (hk : k ∈ zAm V) : NxI V es (zDe left k) (max m (k + 1)) := by
  refine ⟨nodup_del h.nd k, fun j v hj => ?_, fun j hj hn => ?_, ?_⟩
  · by_cases e : j = k
    · subst e; rw [zCw h.nd] at hj; cases hj
    · rw [zCu _ e] at hj; exact h.sub j v hj
  · by_cases e : j = k
    · subst e; omega
    · rw [zCu _ e] at hn; have := h.ge j hj hn; omega
  · rcases Int.le_total m (k + 1) with h2 | h2
    · exact .inr ⟨k, hk, by omega⟩
    · rw [Int.max_eq_left h2]; exact h.has
end
section
open Go.RowKit
attribute [local irreducible] zAk
variable {g w : World} {L M : List HP} {ad : Nat → Addr}
theorem wrapB (s : Nat) : IntKind.u8.wrap (s : Int) = (((UInt8.ofNat s).toNat : Nat) : Int) := by
  have h8 : (2 : Int) ^ 8 = 256 := by decide
  simp only [IntKind.wrap, IntKind.bits, IntKind.signed, h8, Bool.false_and, Bool.false_eq_true, if_false]; rw [UInt8.toNat_ofNat']
  omega
def vputF : Nat → Nat → List UInt8
  | 0, _ => []
  | f + 1, n => if n < 128 then [UInt8.ofNat n] else UInt8.ofNat (n % 128 + 128) :: vputF f (n / 128)
def zBa (n : Nat) : List UInt8 := vputF 10 n
theorem zGn : ∀ f n, (vputF f n).length ≤ f
  | 0, _ => Nat.le_refl _
  | f + 1, n => by
    unfold vputF
    split
    · simp
    · simp [zGn f (n / 128)]
theorem low7 {m : Int} (h0 : 0 ≤ m) (h : m < 256) : bits .or .u8 m 128 = m % 128 + 128 := by
  have : ∀ m : Nat, m < 256 → bits .or .u8 (m : Int) 128 = (m : Int) % 128 + 128 := by decide +kernel
  have h1 := this m.toNat (by omega)
  rwa [Int.toNat_of_nonneg h0] at h1
theorem low7n (n : Nat) : bits .or .u8 (((UInt8.ofNat n).toNat : Nat) : Int) 128 = (((UInt8.ofNat (n % 128 + 128)).toNat : Nat) : Int) := by
  have h1 := (UInt8.ofNat n).toNat_lt; rw [low7 (by omega) (by omega), UInt8.toNat_ofNat', UInt8.toNat_ofNat']
  omega
theorem zFd (hs : Mem g w L) {a : Option Addr} {m c : Nat} {lb : List UInt8} {n : Nat} (hr : Rd g L (.slice a m c) (zAn lb)) (hm : m = lb.length) (hlen : lb.length ≤ 1000000) (hn : n < 18446744073709551616) : Calls Tryz.prog 142 #[.slice a m c, .int .u64 n] w (Ret fun v w' => ∃ a' c', v = .slice a' (lb ++ zBa n).length c' ∧ Mem g w' (own (.slice a' (lb ++ zBa n).length c') (zAn (lb ++ zBa n)) :: L)) := by
  subst hm; refine zAh Tryz.func142 rfl rfl ?_
  refine zA4 (zA2 (Jb rfl (zA6 (zA4 (zA2 (J7 rfl (Qg en49 (zCt hs (l := lb) hr (by omega)) ?_))))))); clear hs; rintro _ w ⟨a7, c7, rfl, hs⟩; rw [zAw] at hs ⊢; refine Jb rfl (zA6 (zA4 (zAp ?_)))
  refine zBs (X := Nat × Nat × List UInt8 × Option Addr × Nat) [1, 5, 8, 9, 10, 11, 12, 13, 14, 15, 16, 17] (fun x => [(5, .slice x.2.2.2.1 x.2.2.1.length x.2.2.2.2), (1, .int .u64 (x.2.1 : Nat))]) (fun x w => 1 ≤ x.1 ∧ x.2.1 < 2 ^ (7 * x.1) ∧ x.2.1 < 18446744073709551616 ∧ x.2.2.1 ++ vputF x.1 x.2.1 = lb ++ zBa n ∧ Mem g w (own (.slice x.2.2.2.1 x.2.2.1.length x.2.2.2.2) (zAn x.2.2.1) :: L)) (fun x => x.1) ((10, n, lb, a7, c7)) ?_ ?_ ?_
  · exact ⟨rfl, rfl, trivial⟩
  · exact ⟨show 1 ≤ 10 by decide, by show n < 2 ^ 70; omega, hn, rfl, hs⟩
  clear hs; rintro x ξ w hI; obtain ⟨f, q, out, oa, oc⟩ := x; obtain ⟨hf, hq, hq2, heq, hs⟩ := hI; simp only at hf hq hq2 heq hs
  have hol : out.length ≤ 1000020 := by have h1 := congrArg List.length heq; have h2 := zGn 10 n; simp only [List.length_append, zBa] at h1; omega
  show cw _ _ _ _ _ _ (updL (mix _ ξ _) [(5, .slice oa out.length oc), (1, .int .u64 (q : Nat))]) w
  refine zA4 (zA4 (zA2 (Jh rfl (Qa (zD5 rfl rfl) (zA6 (zB2 rfl ?_ ?_))))))
  ·
   intro h9; have g9 := of_decide_eq_true h9; obtain ⟨f, rfl⟩ : ∃ f', f = f' + 1 := ⟨f - 1, by omega⟩
   have h2 : 2 ^ (7 * (f + 1)) = 128 * 2 ^ (7 * f) := by rw [Nat.mul_add, Nat.pow_add]; omega
   have hq3 : q / 128 < 2 ^ (7 * f) := by rw [h2] at hq; exact Nat.div_lt_of_lt_mul hq
   have hf1 : 1 ≤ f := by rcases Nat.eq_zero_or_pos f with h | h; rw [h] at hq3; simp at hq3; omega; exact h
   have hst : vputF (f + 1) q = UInt8.ofNat (q % 128 + 128) :: vputF f (q / 128) := by conv => lhs; unfold vputF; rw [if_neg (by omega)]
   refine zAd (zA4 (zAp (zA2 (J7 rfl (Jh rfl (Jy zCg uz5 rfl (c := (((UInt8.ofNat q).toNat : Nat) : Int)) (wrapB q) (Qa (zFk (v := .int .u8 (((UInt8.ofNat (q % 128 + 128)).toNat : Nat) : Int)) (by simp) rfl rfl (by rw [← low7n q]; rfl)) ?_))))))); refine zB4 hs rfl ((zAn [UInt8.ofNat (q % 128 + 128)])) zC6 zs5 rfl (zEk (zCd _)) rfl rfl rfl ?_; clear hs; intro b16 w hs
   try simp only [zzs, zzz] at hs
   refine zD3 hs rfl 1 rfl zC6 in5 rfl rfl rfl (zCr (P := Tryz.prog) zC6 ((Rd.cells (n := 1) (cs := zAn [UInt8.ofNat (q % 128 + 128)]) 0 rfl rfl).seq hs) (zCd _)) (by simp only [zAw, List.length_cons, List.length_nil]; omega) (by simp only [zAw, List.length_cons, List.length_nil]; omega) ?_; clear hs; intro a17 c17 w hs; simp only [zzs, zzz] at hs; refine Jb rfl (zA6 (zA2 (Jh rfl (Qa (run_shr rfl rfl (n := 7) (c := ((q / 128 : Nat) : Int)) rfl (by decide) (by omega)) (Ji rfl (zA6 ?_))))))
   have e1 : zAn out ++ zAn [UInt8.ofNat (q % 128 + 128)] = zAn (out ++ [UInt8.ofNat (q % 128 + 128)]) := (zDw _ _).symm
   have e2 : (zAn out).length + (zAn [UInt8.ofNat (q % 128 + 128)]).length = (out ++ [UInt8.ofNat (q % 128 + 128)]).length := by simp [zAw]
   rw [e1, e2] at hs; exact ⟨(f, q / 128, out ++ [UInt8.ofNat (q % 128 + 128)], a17, c17), by simp only; omega, ⟨hf1, hq3, by show q / 128 < _; omega, by rw [← heq, hst]; simp, hs.tail⟩, ⟨show Value.slice a17 ((zAn out).length + (zAn [UInt8.ofNat (q % 128 + 128)]).length) c17 = Value.slice a17 (out ++ [UInt8.ofNat (q % 128 + 128)]).length c17 from by rw [e2], rfl, trivial⟩, by repeat (first | exact Out.mix _ _ _ | refine Out.updo rfl ?_ | refine Out.upd rfl ?_ | refine Out.mixIn rfl ?_)⟩
  ·
   intro h9; have g9 := of_decide_eq_false h9; obtain ⟨f, rfl⟩ : ∃ f', f = f' + 1 := ⟨f - 1, by omega⟩
   have hst : vputF (f + 1) q = [UInt8.ofNat q] := by unfold vputF; rw [if_pos (by omega)]
   rw [hst] at heq; refine zBm rfl (zA4 (zA2 (J7 rfl (Jh rfl (Jy zCg uz5 rfl (c := (((UInt8.ofNat q).toNat : Nat) : Int)) (wrapB q) (zB4 hs rfl ((zAn [UInt8.ofNat q])) zC6 zs5 rfl (zEk (zCd _)) rfl rfl rfl ?_)))))); clear hs; intro b21 w hs
   try simp only [zzs, zzz] at hs
   refine zD3 hs rfl 1 rfl zC6 in5 rfl rfl rfl (zCr (P := Tryz.prog) zC6 ((Rd.cells (n := 1) (cs := zAn [UInt8.ofNat q]) 0 rfl rfl).seq hs) (zCd _)) (by simp only [zAw, List.length_cons, List.length_nil]; omega) (by simp only [zAw, List.length_cons, List.length_nil]; omega) ?_; clear hs; intro a22 c22 w hs; simp only [zzs, zzz] at hs; refine Jb rfl (zA6 (zAe (zBi (v := .slice _ _ _) rfl rfl ?_)))
   have e1 : zAn out ++ zAn [UInt8.ofNat q] = zAn (lb ++ zBa n) := by rw [← zDw, heq]
   have e2 : (zAn out).length + (zAn [UInt8.ofNat q]).length = (lb ++ zBa n).length := by rw [← heq]; simp [zAw]
   rw [e1, e2] at hs; exact ⟨_, rfl, a22, c22, by rw [e2], hs.tail⟩
theorem putint_sl (hs : Mem g w L) {a : Option Addr} {m c : Nat} {lb : List UInt8} {n : Int} {u v q x : Int} {z : Nat} (hr : Rd g L (.slice a m c) (zAn lb)) (hm : m = lb.length) (hlen : lb.length ≤ 1000000)
    (h1 : IntKind.u64.wrap n = u) (h2 : IntKind.u64.wrap (u * 2 ^ 1) = v) (h3 : n / 2 ^ 63 = q) (h4 : IntKind.u64.wrap q = x) (h5 : bits .xor .u64 v x = (z : Int)) (hz : z < 18446744073709551616) :
    Calls Tryz.prog 175 #[.slice a m c, .int .i64 n] w (Ret fun v w' => ∃ a' c', v = .slice a' (lb ++ zBa z).length c' ∧ Mem g w' (own (.slice a' (lb ++ zBa z).length c') (zAn (lb ++ zBa z)) :: L)) := by
  refine zAh Tryz.func175 rfl rfl ?_
  refine zA4 (zA2 (Jb rfl (zA6 (zA4 (zA2 (J7 rfl (J0 rfl (Jy uz2 zCg rfl h1 (Qa (run_shl rfl rfl (n := 1) rfl (by decide) h2) (J0 rfl (Qa (run_shr rfl rfl (n := 63) rfl (by decide) h3) (Jy uz2 zCg rfl h4 (Qa (zFk (v := .int .u64 (z : Nat)) (by simp) rfl rfl (by rw [← h5]; rfl)) ?_))))))))))))); refine Qg en142 (zFd hs hr hm hlen hz) ?_; clear hs; rintro _ w ⟨a13, c13, rfl, hs⟩; refine Jb rfl (zA6 ?_)
  exact zAe (zBi (v := .slice _ _ _) rfl rfl ⟨_, rfl, a13, c13, rfl, hs⟩)
end
section
open Go.RowKit
theorem u64_nat (a : Nat) (ha : a < 18446744073709551616) : (BitVec.ofInt 64 (a : Int)).toNat = a := by
  rw [BitVec.ofInt_natCast, BitVec.toNat_ofNat]; exact Nat.mod_eq_of_lt (by omega)
theorem zCf (n : Int) : IntKind.u64.wrap n = n % 18446744073709551616 := by simp [IntKind.wrap, IntKind.bits, IntKind.signed]
def zig (z : Int) : Nat := if 0 ≤ z then (2 * z).toNat else (-2 * z - 1).toNat
theorem zig_lt {z : Int} (h : zDo z) : zig z < 18446744073709551616 := by
  obtain ⟨h1, h2⟩ := h
  unfold zig
  split <;> omega
theorem xor_u64 (a b : Nat) (ha : a < 18446744073709551616) (hb : b < 18446744073709551616) : bits .xor .u64 (a : Int) (b : Int) = ((a ^^^ b : Nat) : Int) := by
  have hx : a ^^^ b < 2 ^ 64 := Nat.xor_lt_two_pow (by omega) (by omega)
  show IntKind.u64.wrap ((BitVec.ofInt 64 (a : Int) ^^^ BitVec.ofInt 64 (b : Int)).toNat : Int) = _
  rw [BitVec.toNat_xor, u64_nat a ha, u64_nat b hb, zCf]
  omega
theorem xor_max (a : Nat) (ha : a < 18446744073709551616) : a ^^^ 18446744073709551615 = 18446744073709551615 - a := by
  have h1 : (BitVec.ofNat 64 a ^^^ BitVec.allOnes 64).toNat = 18446744073709551615 - a := by
    rw [BitVec.xor_allOnes, BitVec.toNat_not, BitVec.toNat_ofNat, Nat.mod_eq_of_lt (by omega)]
  rw [BitVec.toNat_xor, BitVec.toNat_ofNat, Nat.mod_eq_of_lt (by omega)] at h1; exact h1
theorem zig_bits {z : Int} (h : zDo z) : bits .xor .u64 (IntKind.u64.wrap (IntKind.u64.wrap z * 2 ^ 1)) (IntKind.u64.wrap (z / 2 ^ 63)) = (zig z : Int) := by
  obtain ⟨h1, h2⟩ := h
  have h63 : (2 : Int) ^ 63 = 9223372036854775808 := by decide
  have h21 : (2 : Int) ^ 1 = 2 := by decide
  rw [zCf, zCf, zCf, h63, h21]
  rcases Int.lt_or_le z 0 with hz | hz
  · have e1 : z % 18446744073709551616 * 2 % 18446744073709551616 = (((18446744073709551616 + 2 * z).toNat : Nat) : Int) := by omega
    have e2 : z / 9223372036854775808 % 18446744073709551616 = ((18446744073709551615 : Nat) : Int) := by omega
    rw [e1, e2, xor_u64 _ _ (by omega) (by decide), xor_max _ (by omega)]
    unfold zig
    rw [if_neg (by omega)]
    omega
  · have e1 : z % 18446744073709551616 * 2 % 18446744073709551616 = (((2 * z).toNat : Nat) : Int) := by omega
    have e2 : z / 9223372036854775808 % 18446744073709551616 = ((0 : Nat) : Int) := by omega
    rw [e1, e2, xor_u64 _ _ (by omega) (by decide), Nat.xor_zero]
    unfold zig
    rw [if_pos hz]
end
section
open Go.RowKit
attribute [local irreducible] zAk
variable {g w : World} {L M : List HP} {ad : Nat → Addr}
theorem Came.cap {a : Option Addr} {n c : Nat} {l : List Value} (h : Came g (.slice a n c) l) : n ≤ c := by
  obtain ⟨⟨a', n', c', hv, hn, hc, _⟩, _⟩ := h; simp only [Value.slice.injEq] at hv; obtain ⟨_, rfl, rfl⟩ := hv; exact hc
theorem zCe {P : Program} {ρ : Env} {dst : Option Tmp} {ty : TypeId} {pos : String} {aft : Array Edge} {x : Operand} {ts e td : TypeId} {b off n c : Nat} {l : List UInt8} (hs : P.underlying ts = some (.slice e)) (he : P.underlying e = some (.int .u8)) (hd : P.underlying td = some .string) (hx : ev ρ x = .slice (some ⟨b, off, none⟩) n c) (hn : n = l.length) (hc : ∀ (j : Nat) (v : Value), (zAn l)[j]? = some v → w.cell? ⟨b, off + j, none⟩ = some v) :
    (execOp (ev ρ) ⟨dst, .convert ts td x, ty, pos, aft, none⟩).run P w = .ok (.value (.string ⟨l.toArray⟩)) w := by
  subst hn; have h := run_convert_bytes_back (P := P) w ts td e ⟨b, off, none⟩ c l hs he hd (fun j hj => by rw [Addr.add_lit]; exact hc j _ (zGk (List.getElem?_eq_getElem hj))); simp only [execOp, hx, Sem.run_bind, h, Result.andThen_ok, Sem.run_pure]
end
section
def zD8 (x : Nat) : Nat := (x / 2) ^^^ (if x % 2 = 1 then 2197175160 else 0)
def crc4 (x : Nat) : Nat := zD8 (zD8 (zD8 (zD8 x)))
theorem xor_swap (x y p : Nat) : x ^^^ (y ^^^ p) = y ^^^ (x ^^^ p) := by rw [← Nat.xor_assoc, Nat.xor_comm x y, Nat.xor_assoc]
theorem crcStep_xor (a b : Nat) : zD8 (a ^^^ b) = zD8 a ^^^ zD8 b := by
  have hm : (a ^^^ b) % 2 = (a % 2) ^^^ (b % 2) := by simpa using Nat.xor_mod_two_pow (a := a) (b := b) (n := 1)
  unfold zD8
  rw [Nat.xor_div_two, hm]
  rcases Nat.mod_two_eq_zero_or_one a with ha | ha <;> rcases Nat.mod_two_eq_zero_or_one b with hb | hb <;> simp only [ha, hb]
  · simp
  · simp [Nat.xor_assoc]
  · simp only [Nat.reduceEqDiff, Nat.xor_zero, if_true, if_false, Nat.reduceXor, Nat.zero_ne_one]
    rw [Nat.xor_assoc, Nat.xor_assoc, Nat.xor_comm (b / 2)]
  · simp only [Nat.xor_self, Nat.reduceEqDiff, if_true]
    have : ∀ x y p : Nat, x ^^^ p ^^^ (y ^^^ p) = x ^^^ y := fun x y p => by
      rw [Nat.xor_assoc, xor_swap p y p, Nat.xor_self, Nat.xor_zero]
    rw [this]; simp
theorem zG7 (q : Nat) : zD8 (2 * q) = q := by simp [zD8]
theorem crc4_xor (a b : Nat) : crc4 (a ^^^ b) = crc4 a ^^^ crc4 b := by simp only [crc4, crcStep_xor]
theorem crc4_sixteen (q : Nat) : crc4 (16 * q) = q := by
  unfold crc4
  rw [show 16 * q = 2 * (2 * (2 * (2 * q))) by omega, zG7, zG7, zG7, zG7]
theorem split16 (x : Nat) : 16 * (x / 16) ^^^ x % 16 = x := by
  have h1 : (16 * (x / 16) ^^^ x % 16) / 2 ^ 4 = x / 16 := by
    rw [Nat.xor_div_two_pow]
    have a : 16 * (x / 16) / 2 ^ 4 = x / 16 := by omega
    have b : x % 16 / 2 ^ 4 = 0 := by omega
    rw [a, b, Nat.xor_zero]
  have h2 : (16 * (x / 16) ^^^ x % 16) % 2 ^ 4 = x % 16 := by
    rw [Nat.xor_mod_two_pow]
    have a : 16 * (x / 16) % 2 ^ 4 = 0 := by omega
    have b : x % 16 % 2 ^ 4 = x % 16 := by omega
    rw [a, b, Nat.zero_xor]
  have h3 := Nat.div_add_mod (16 * (x / 16) ^^^ x % 16) (2 ^ 4); rw [h1, h2] at h3
  omega
theorem crc4_split (x : Nat) : crc4 x = (x / 16) ^^^ crc4 (x % 16) := by
  conv => lhs; rw [← split16 x]
  rw [crc4_xor, crc4_sixteen]
theorem zGf {x : Nat} (h : x < 4294967296) : zD8 x < 4294967296 := by
  unfold zD8
  refine Nat.xor_lt_two_pow (n := 32) (by omega) ?_
  split <;> decide
theorem crc4_lt {x : Nat} (h : x < 4294967296) : crc4 x < 4294967296 := zGf (zGf (zGf (zGf h)))
def crcByte (s : Nat) (c : UInt8) : Nat := crc4 (crc4 (s ^^^ c.toNat))
theorem crcByte_lt {s : Nat} (h : s < 4294967296) (c : UInt8) : crcByte s c < 4294967296 :=
  crc4_lt (crc4_lt (Nat.xor_lt_two_pow (n := 32) (by omega) (Nat.lt_trans c.toNat_lt (by decide))))
def zFh (s : Nat) (l : List UInt8) : Nat := l.foldl crcByte s
theorem zGp : ∀ (l : List UInt8) {s : Nat}, s < 4294967296 → zFh s l < 4294967296
  | [], _, h => h
  | c :: l, _, h => zGp l (crcByte_lt h c)
def zC4 (s : Nat) (l : List UInt8) : Nat := 4294967295 ^^^ zFh (4294967295 ^^^ s) l
theorem not_lt {s : Nat} (h : s < 4294967296) : 4294967295 ^^^ s < 4294967296 := Nat.xor_lt_two_pow (n := 32) (by omega) (by omega)
theorem crcMore_lt {s : Nat} (h : s < 4294967296) (l : List UInt8) : zC4 s l < 4294967296 := not_lt (zGp l (not_lt h))
theorem zD9 (a b : Nat) (ha : a < 4294967296) (hb : b < 4294967296) : bits .xor .u32 (a : Int) (b : Int) = ((a ^^^ b : Nat) : Int) := by
  have hx : a ^^^ b < 2 ^ 32 := Nat.xor_lt_two_pow (by omega) (by omega)
  have h1 : (BitVec.ofInt 32 (a : Int)).toNat = a := by
    rw [BitVec.ofInt_natCast, BitVec.toNat_ofNat]; exact Nat.mod_eq_of_lt (by omega)
  have h2 : (BitVec.ofInt 32 (b : Int)).toNat = b := by
    rw [BitVec.ofInt_natCast, BitVec.toNat_ofNat]; exact Nat.mod_eq_of_lt (by omega)
  have hw : ∀ n : Int, IntKind.u32.wrap n = n % 4294967296 := fun n => by simp [IntKind.wrap, IntKind.bits, IntKind.signed]
  show IntKind.u32.wrap ((BitVec.ofInt 32 (a : Int) ^^^ BitVec.ofInt 32 (b : Int)).toNat : Int) = _
  rw [BitVec.toNat_xor, h1, h2, hw]
  omega
theorem not_u32 (s : Nat) (h : s < 4294967296) : bits .xor .u32 IntKind.u32.max (s : Int) = ((4294967295 ^^^ s : Nat) : Int) := by
  have : IntKind.u32.max = ((4294967295 : Nat) : Int) := by decide
  rw [this, zD9 _ _ (by decide) h]
theorem half_step (y : Nat) (hy : y < 4294967296) : bits .xor .u32 ((y : Int) / 2) (bits .and .u32 (-bits .and .u32 (y : Int) 1 % 4294967296) 2197175160) = ((zD8 y : Nat) : Int) := by
  have e1 : bits .and .u32 (y : Int) 1 = ((y % 2 : Nat) : Int) := by
    have := bits_and_u32_nat y 1 hy (by decide); rw [show ((1 : Nat) : Int) = 1 from rfl] at this; rw [this, show y &&& 1 = y % 2 from Nat.and_two_pow_sub_one_eq_mod y 1]
  rw [e1]
  have hd : ((y : Int) / 2) = ((y / 2 : Nat) : Int) := by omega
  rw [hd]
  unfold zD8
  rcases Nat.mod_two_eq_zero_or_one y with h | h
  · rw [h]
    have e2 : bits .and .u32 (-((0 : Nat) : Int) % 4294967296) 2197175160 = ((0 : Nat) : Int) := by decide
    rw [e2, zD9 _ _ (by omega) (by decide)]
    simp
  · rw [h]
    have e2 : bits .and .u32 (-((1 : Nat) : Int) % 4294967296) 2197175160 = ((2197175160 : Nat) : Int) := by decide
    rw [e2, zD9 _ _ (by omega) (by decide)]
    simp
theorem low_four (y : Nat) (hy : y < 4294967296) : bits .and .u32 (y : Int) 15 = ((y % 16 : Nat) : Int) := by
  have := bits_and_u32_nat y 15 hy (by decide); rw [show ((15 : Nat) : Int) = 15 from rfl] at this; rw [this, show y &&& 15 = y % 16 from Nat.and_two_pow_sub_one_eq_mod y 4]
theorem half_byte (y : Nat) (hy : y < 4294967296) : bits .xor .u32 ((y : Int) / 16) ((crc4 (y % 16) : Nat) : Int) = ((crc4 y : Nat) : Int) := by
  rw [show ((y : Int) / 16) = ((y / 16 : Nat) : Int) by omega, zD9 _ _ (by omega) (crc4_lt (by omega)), ← crc4_split]
end
section
open Go.RowKit
theorem oneU8c (l : List UInt8) {i : Nat} {v : Value} (h : (zAn l)[i]? = some v) : ∃ x, l[i]? = some x ∧ v = .int .u8 x.toNat := by
  simp only [zAn, List.getElem?_map, Option.map_eq_some_iff] at h; obtain ⟨x, hx, rfl⟩ := h; exact ⟨x, hx, rfl⟩
set_option maxRecDepth 100000 in
def crcN : Nat → Nat → Nat
  | 0, x => x
  | m + 1, x => zD8 (crcN m x)
theorem crcN_lt {x : Nat} (h : x < 4294967296) : ∀ m, crcN m x < 4294967296
  | 0 => h
  | m + 1 => zGf (crcN_lt h m)
def zCl (k : Nat) : Array Value := ((List.range 16).map fun i => .int .u32 ((if i < k then crc4 i else 0 : Nat) : Int)).toArray
theorem half_set : ∀ k, k < 16 → (zCl k).setIfInBounds k (.int .u32 ((crcN 4 k : Nat) : Int)) = zCl (k + 1)
  | 0, _ => rfl
  | 1, _ => rfl
  | 2, _ => rfl
  | 3, _ => rfl
  | 4, _ => rfl
  | 5, _ => rfl
  | 6, _ => rfl
  | 7, _ => rfl
  | 8, _ => rfl
  | 9, _ => rfl
  | 10, _ => rfl
  | 11, _ => rfl
  | 12, _ => rfl
  | 13, _ => rfl
  | 14, _ => rfl
  | 15, _ => rfl
  | n + 16, h => absurd h (by omega)
theorem half_at {k : Nat} (h : k < 16) : (zCl 16)[k]? = some (.int .u32 ((crc4 k : Nat) : Int)) := by
  simp [zCl, h]
theorem half_one : (zCl 16).all (·.oneCell') = true := by simp [zCl, Value.oneCell']
theorem size_u32 : (Tryz.prog.info? 64).map (·.size) = some 1 := by kernel_rfl
theorem size_tab (vs : Array Value) (h : vs.size = 16) : (Tryz.prog.info? 254).map (·.size) = some vs.size := by rw [h]; kernel_rfl
theorem agg_tab (w : World) : (isAgg 254).run Tryz.prog w = .ok true w := by simp [isAgg, run_underlying uz254]
def HalfPost (w : World) (e : Ending) (w' : World) : Prop := e = .returned (.agg (zCl 16)) ∧ Below w.heap.size w w'
set_option maxRecDepth 100000 in
theorem halves_any {w : World} : Calls Tryz.prog 172 #[] w (HalfPost w) := by
  go_enter Tryz.func172, Tryz.ntmps172
  go_wp2
  go_loopg [4] 16 (fun g i wr => ∃ k : Nat, g = 16 - k ∧ k ≤ 16 ∧ i = .int .i64 k ∧ Below w.heap.size w wr ∧ wr.heap[w.heap.size + 1]? = some (.cells (zCl k) 254 (0, 0)) ∧ ∃ z : Array Value, z.size = 16 ∧ wr.heap[w.heap.size]? = some (.cells z 254 (0, 0)))
  case atStart =>
    refine ⟨0, rfl, by omega, rfl, (((Keeps.refl (fun _ => False) w).alloc _).alloc _).below (Nat.le_refl _) fun _ _ => id, ?_, _, ?_, heap_alloc_old (World.alloc_heap_new w _)⟩
    · have := World.alloc_heap_new (w.alloc (.cells (zCl 0) 254)) (.cells (zCl 0) 254)
      show ((w.alloc (.cells (zCl 0) 254)).alloc (.cells (zCl 0) 254)).heap[w.heap.size + 1]? = some (.cells (zCl 0) 254 (0, 0))
      simpa using this
    · rfl
  case round =>
    obtain ⟨k, hg, hk, rfl, hbel, hT, z, hz, hZ⟩ := hrel; subst hg; have HB := Lib.hid hbel; have HT := Lib.hid hT; have HZ := Lib.hid hZ; have Hz := Lib.hid hz; clear hbel hT hZ hz
    by_cases hk16 : k < 16
    · go_wp2
      rw [show decide ((k : Int) < 16) = true from by simp; omega]
      go_loopg [3, 9] 4 (fun g x i wi => wi = wr ∧ ∃ m : Nat, g = 4 - m ∧ m ≤ 4 ∧ i = .int .i64 m ∧ x = .int .u32 (crcN m k : Nat))
      case atStart => exact ⟨rfl, 0, rfl, by omega, rfl, rfl⟩
      case round =>
        obtain ⟨rfl, m, hg, hm, rfl, rfl⟩ := hrel; subst hg; have hlt := crcN_lt (show k < 4294967296 by omega) m
        by_cases hm4 : m < 4
        · go_wp2
          go_roundg (4 - (m + 1))
          case measure => omega
          case rel => exact ⟨rfl, m + 1, rfl, by omega, by go_num, by rw [half_step _ hlt]; rfl⟩
        · have hm4' : m = 4 := by omega
          subst hm4'
          go_wp2_with (refine wpList_storeCell rfl _ _ _ rfl (w.heap.size + 1) k (.int .u32 ((crcN 4 k : Nat) : Int)) rfl rfl HT.out size_u32 (by simp [zCl]; omega) rfl ?_; intro w1 h1 k1 _; have H1 := Lib.hid h1; have K1 := Lib.hid k1; clear h1 k1)
          go_roundg (16 - (k + 1))
          case measure => omega
          case rel => exact ⟨k + 1, rfl, by omega, by go_num, HB.out.trans (K1.out.below HB.out.size fun i hi e => by omega), by rw [H1.out, half_set k hk16], z, Hz.out, K1.out.get HZ.out (by omega)⟩
    · have hk' : k = 16 := by omega
      subst hk'
      go_wp2_with (first
        | (refine wpList_load_row rfl _ _ rfl (w.heap.size + 1) rfl _ (zCl 16) (0, 0) _ HT.out uz254 rfl (size_tab (zCl 16) rfl) ?_)
        | (refine zE4 rfl _ _ _ rfl w.heap.size _ rfl rfl HZ.out (size_tab (zCl 16) rfl) Hz.out half_one ?_; intro w2 h2 k2 _; have H2 := Lib.hid h2; have K2 := Lib.hid k2; clear h2 k2))
      refine bodyPost_ret (results_row rfl rfl (agg_tab _) (size_tab (zCl 16) rfl) H2.out) rfl ⟨rfl, ?_⟩; exact HB.out.trans (K2.out.below HB.out.size fun i hi e => by omega)
structure Round (s : Nat) (x : UInt8) (y1 i1 t1 y2 i2 t2 y3 : Nat) : Prop where
  e1 : bits .xor .u32 (s : Int) ((x.toNat : Int) % 4294967296) = (y1 : Int)
  e2 : bits .and .u32 (y1 : Int) 15 = (i1 : Int)
  e3 : bits .xor .u32 ((y1 : Int) / 16) (t1 : Int) = (y2 : Int)
  e4 : bits .and .u32 (y2 : Int) 15 = (i2 : Int)
  e5 : bits .xor .u32 ((y2 : Int) / 16) (t2 : Int) = (y3 : Int)
  l1 : i1 < 16
  l2 : i2 < 16
  h0 : crc4 (crc4 y1) = y3
  h1 : t1 = crc4 i1
  h2 : t2 = crc4 i2
  h3 : y3 = crcByte s x
  b1 : y1 < 4294967296
  b2 : y2 < 4294967296
theorem round_at {s : Nat} (hs : s < 4294967296) (x : UInt8) : ∃ y1 i1 t1 y2 i2 t2 y3, Round s x y1 i1 t1 y2 i2 t2 y3 := by
  have hx : x.toNat < 4294967296 := Nat.lt_trans x.toNat_lt (by decide); have h1 : s ^^^ x.toNat < 4294967296 := Nat.xor_lt_two_pow (n := 32) (by omega) (by omega); have h2 := crc4_lt h1
  exact ⟨s ^^^ x.toNat, (s ^^^ x.toNat) % 16, crc4 ((s ^^^ x.toNat) % 16), crc4 (s ^^^ x.toNat), crc4 (s ^^^ x.toNat) % 16, crc4 (crc4 (s ^^^ x.toNat) % 16), crc4 (crc4 (s ^^^ x.toNat)),
    by rw [show ((x.toNat : Int) % 4294967296) = (x.toNat : Int) by omega]; exact zD9 _ _ hs hx, low_four _ h1, half_byte _ h1, low_four _ h2, half_byte _ h2, Nat.mod_lt _ (by decide), Nat.mod_lt _ (by decide), rfl, rfl, rfl, rfl, h1, h2⟩
def SumPost (w : World) (n : Nat) (e : Ending) (w' : World) : Prop := e = .returned (.int .u32 (n : Int)) ∧ Below w.heap.size w w'
set_option maxRecDepth 100000 in
theorem more_any {w : World} {b : Value} {l : List UInt8} {s : Nat} (hs : s < 4294967296) (hb : zEs w b (zAn l)) (hlen : l.length ≤ 1073741824) :
    Calls Tryz.prog 128 #[.int .u32 (s : Int), b] w (SumPost w (zC4 s l)) := by
  have HB := Lib.hid hb; obtain ⟨a, n, c, rfl, hal, ha2⟩ := id hb
  have hal' : n = l.length := by simpa [zAn] using hal
  clear hal; subst hal'; clear hb ha2
  go_enter Tryz.func128, Tryz.ntmps128
  go_wp2_with (first
    | (go_at_call 172; refine halves_any.mono ?_; rintro e w1 ⟨rfl, hb1⟩; have Hb1 := Lib.hid hb1; clear hb1)
    | (refine zE4 rfl _ _ _ rfl w1.heap.size _ rfl rfl (World.alloc_heap_new w1 _) (size_tab (zCl 16) rfl) rfl half_one ?_; intro w2 h2 k2 _; have H2 := Lib.hid h2; have Hb2 := Lib.hid (Hb1.out.trans ((((Keeps.refl (fun i => i = w1.heap.size) w1).alloc _).trans k2).below Hb1.out.size fun i hi e => by have := Hb1.out.size; omega)); clear h2 k2))
  go_loopg [0, 13] l.length (fun g x i wr => wr = w2 ∧ ∃ k : Nat, g = l.length - k ∧ k ≤ l.length ∧ i = .int .i64 k ∧ x = .int .u32 ((zFh (4294967295 ^^^ s) (l.take k) : Nat) : Int))
  case atStart => exact ⟨rfl, 0, rfl, Nat.zero_le _, rfl, by rw [not_u32 _ hs]; rfl⟩
  case round =>
    obtain ⟨rfl, k, hg, hk, rfl, rfl⟩ := hrel; subst hg
    by_cases hkl : k < l.length
    · obtain ⟨bb, off, rfl, lt, hc⟩ := HB.out.cell hkl
      have hk' : k < (zAn l).length := by simpa [zAn] using hkl
      have cx := (Hb2.out.cell (p := ⟨bb, off + k, none⟩) lt).trans (hc k hk'); obtain ⟨x, hlx, hx⟩ := oneU8c l (List.getElem?_eq_getElem hk'); rw [hx] at cx; clear hc hx hk'; have hlt : zFh (4294967295 ^^^ s) (l.take k) < 4294967296 := zGp _ (not_lt hs); obtain ⟨y1, i1, t1, y2, i2, t2, y3, R⟩ := round_at hlt x
      have hnext : zFh (4294967295 ^^^ s) (l.take (k + 1)) = y3 := by
        rw [R.h3, List.take_add_one, hlx, zFh, zFh, List.foldl_append]; rfl
      have Hn := Lib.hid hnext; obtain ⟨e1, e2, e3, e4, e5, l1, l2, h0, h1, h2, h3, b1, b2⟩ := R; have c1 : wr.cell? ⟨w1.heap.size, i1, none⟩ = some (.int .u32 (t1 : Int)) := zCc H2.out (by rw [h1]; exact half_at l1); have c2 : wr.cell? ⟨w1.heap.size, i2, none⟩ = some (.int .u32 (t2 : Int)) := zCc H2.out (by rw [h2]; exact half_at l2); generalize zFh (4294967295 ^^^ s) (l.take k) = z at *; clear h0 h1 h2 h3 hnext hlx
      go_wp2
      go_roundg (l.length - (k + 1))
      case measure => omega
      case rel => exact ⟨rfl, k + 1, rfl, by omega, by go_num, by rw [Hn.out]⟩
    · have hk' : k = l.length := by omega
      subst hk'
      go_wp2
      go_ret
      refine ⟨?_, Hb2.out⟩
      show Ending.returned (.int .u32 (bits .xor .u32 IntKind.u32.max ((zFh (4294967295 ^^^ s) l : Nat) : Int))) = _
      rw [not_u32 _ (zGp l (not_lt hs))]
      rfl
theorem stayB {w w' : World} {v : Value} {l : List Value} (h : zEs w v l) (k : Below w.heap.size w w') : zEs w' v l := by
  obtain ⟨a, n, c, rfl, hn, hc, ha, h⟩ := h; refine ⟨a, n, c, rfl, hn, hc, ha, ?_⟩
  rcases h with h | ⟨b, off, cs, E, fz, rfl, hb, r⟩
  · exact .inl h
  · exact .inr ⟨b, off, cs, E, fz, rfl, (k.block b (lt_of_block hb)).trans hb, r⟩
set_option maxRecDepth 100000 in
theorem of_any0 {w : World} {pv b : Value} {l : List UInt8} (hp : zEs w pv [b]) (hb : zEs w b (zAn l)) (hlen : l.length ≤ 1073741824) :
    Calls Tryz.prog 88 #[pv] w (SumPost w (zC4 0 l)) := by
  have HP := Lib.hid hp; have HB := Lib.hid hb; obtain ⟨a, n, c, rfl, hal, ha2⟩ := id hp
  have hal' : n = 1 := by simpa using hal
  clear hal; subst hal'; obtain ⟨b1, off, rfl, lt, hc⟩ := HP.out.cell (i := 0) (by omega); have c0 : w.cell? ⟨b1, off, none⟩ = some b := hc 0 (by simp); obtain ⟨ba, bn, bc, rfl, hbl, hb2⟩ := id hb; clear hp hb ha2 hc hbl hb2
  go_enter Tryz.func88, Tryz.ntmps88
  go_wp2
  go_loopg [3, 8] 1 (fun g x i wr => ∃ k : Nat, g = 1 - k ∧ k ≤ 1 ∧ i = .int .i64 k ∧ x = .int .u32 ((if k = 0 then 0 else zC4 0 l : Nat) : Int) ∧ Below w.heap.size w wr)
  case atStart => exact ⟨0, rfl, by omega, rfl, rfl, Below.refl _ _⟩
  case round =>
    obtain ⟨k, hg, hk, rfl, rfl, hbel⟩ := hrel; subst hg; have HE := Lib.hid hbel; clear hbel
    by_cases hk0 : k = 0
    · subst hk0
      have cw : wr.cell? ⟨b1, off, none⟩ = some (.slice ba bn bc) := (HE.out.cell (p := ⟨b1, off, none⟩) lt).trans c0
      go_wp2_with (first
        | (go_at_call 128; refine (more_any (s := 0) (l := l) (by decide) (stayB HB.out HE.out) hlen).mono ?_; rintro e w1 ⟨rfl, hb1⟩; have Hb1 := Lib.hid (HE.out.trans (hb1.mono HE.out.size)); clear hb1))
      go_roundg 0
      case measure => omega
      case rel => exact ⟨1, rfl, by omega, by go_num, rfl, Hb1.out⟩
    · have hk1 : k = 1 := by omega
      subst hk1
      go_wp2
      go_ret
      exact ⟨rfl, HE.out⟩
end
end Go.Proofs.YthejaanobeonnaaGreatDoor
