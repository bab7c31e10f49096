/- An error, bare or with a place, as a value and a chunk; the chunks of a view. -/
import Derived.Test.YtkogkokmcmallaaGreatDoorMf
import Derived.Test.YtkogkokmcmallaaGreatDoorZb
import Derived.Test.YtkogkokmcmallaaGreatDoorEi
namespace Go.Proofs.YtkogkokmcmallaaGreatDoor
set_option linter.all false
open Go.RowKit
variable {g w : World} {L M : List HP} {ad : Nat → Addr} {p : Nat}

def flV (ad : Nat → Addr) (f : Flt) (eb : Nat) : Value := match f.2 with | none => errV ad f.1 | some _ => .iface 185 (.pointer (some ⟨eb, 0, none⟩))
def flC (ad : Nat → Addr) (f : Flt) (eb : Nat) : HP := match f.2 with | none => emp | some z => cells eb [.int .i64 (z : Nat), errV ad f.1] 187
theorem flV_bare (c eb : Nat) : flV ad (c, none) eb = errV ad c := rfl
theorem flC_bare (c eb : Nat) : flC ad (c, none) eb = emp := rfl
theorem flV_at (c z eb : Nat) : flV ad (c, some z) eb = .iface 185 (.pointer (some ⟨eb, 0, none⟩)) := rfl
theorem flC_at (c z eb : Nat) : flC ad (c, some z) eb = cells eb [.int .i64 (z : Nat), errV ad c] 187 := rfl
theorem emp_okF (w : World) : emp.ok (fun _ => False) w := fun _ h => h
/-- A result that is an error. -/
def RetF (ad : Nat → Addr) (f : Flt) (g : World) (L : List HP) : Value → World → Prop := fun v w' => ∃ eb, v = flV ad f eb ∧ Mem g w' (flC ad f eb :: L)
theorem RetF.bare {c : Nat} (hs : Mem g w L) : RetF ad (c, none) g L (errV ad c) w := ⟨0, rfl, hs.addE (emp_okF w)⟩
theorem flV_one (f : Flt) (eb : Nat) : (flV ad f eb).oneCell' = true := by
  obtain ⟨c, z⟩ := f
  cases z with
  | none => simp only [flV, errV]; split <;> rfl
  | some z => rfl
section
variable {ρ : Env} {dst : Option Tmp} {ty : TypeId} {pos : String} {aft : Array Edge} {x : Operand} {u : TypeId} {f : Flt} {eb : Nat}
theorem run_eqF (hf : f.2 = none ∨ f.1 ≠ 0) (hx : ev ρ x = flV ad f eb) : (execOp (ev ρ) ⟨dst, .binOp .eql 30 x (.const .nilIface) u, ty, pos, aft, none⟩).run Tryz.prog w = .ok (.value (.bool (decide (f.1 = 0)))) w := by
  obtain ⟨c, z⟩ := f
  cases z with
  | none => exact run_eqerrn hx
  | some z =>
    have hc : c ≠ 0 := by simpa using hf
    rw [flV_at] at hx
    rw [show (decide (((c, some z) : Flt).1 = 0)) = false from decide_eq_false hc]
    have hy : ev ρ (.const .nilIface) = .nilIface := rfl
    have hg : (eqGuard .eql 30 x (.const .nilIface) (.iface 185 (.pointer (some ⟨eb, 0, none⟩))) .nilIface).run Tryz.prog w = .ok () w := by cases x <;> rfl
    have hb : binOp .eql 30 (.iface 185 (.pointer (some ⟨eb, 0, none⟩))) .nilIface = (do pure (.bool (← Op.equal 30 (.iface 185 (.pointer (some ⟨eb, 0, none⟩))) .nilIface))) := rfl
    have he : (Op.equal 30 (.iface 185 (.pointer (some ⟨eb, 0, none⟩))) .nilIface).run Tryz.prog w = .ok false w := by
      show (Op.equalIn 10000 _ _ _).run Tryz.prog w = _
      rw [Op.equalIn]
      simp [run_underlying Tryz.underlying30]
    simp only [execOp, hx, hy, Sem.run_bind, hg, hb, he, Result.andThen_ok, Sem.run_pure]
theorem run_neF (hf : f.2 = none ∨ f.1 ≠ 0) (hx : ev ρ x = flV ad f eb) : (execOp (ev ρ) ⟨dst, .binOp .neq 30 x (.const .nilIface) u, ty, pos, aft, none⟩).run Tryz.prog w = .ok (.value (.bool (!decide (f.1 = 0)))) w := by
  obtain ⟨c, z⟩ := f
  cases z with
  | none => exact run_neerrn hx
  | some z =>
    have hc : c ≠ 0 := by simpa using hf
    rw [flV_at] at hx
    rw [show (decide (((c, some z) : Flt).1 = 0)) = false from decide_eq_false hc]
    have hy : ev ρ (.const .nilIface) = .nilIface := rfl
    have hg : (eqGuard .neq 30 x (.const .nilIface) (.iface 185 (.pointer (some ⟨eb, 0, none⟩))) .nilIface).run Tryz.prog w = .ok () w := by cases x <;> rfl
    have hb : binOp .neq 30 (.iface 185 (.pointer (some ⟨eb, 0, none⟩))) .nilIface = (do pure (.bool (!(← Op.equal 30 (.iface 185 (.pointer (some ⟨eb, 0, none⟩))) .nilIface)))) := rfl
    have he : (Op.equal 30 (.iface 185 (.pointer (some ⟨eb, 0, none⟩))) .nilIface).run Tryz.prog w = .ok false w := by
      show (Op.equalIn 10000 _ _ _).run Tryz.prog w = _
      rw [Op.equalIn]
      simp [run_underlying Tryz.underlying30]
    simp only [execOp, hx, hy, Sem.run_bind, hg, hb, he, Result.andThen_ok, Sem.run_pure]
end
theorem FltOk.place {f : Flt} (h : FltOk f) : f.2 = none ∨ f.1 ≠ 0 := by
  rcases h.2 with h | h
  · exact .inl h
  · right; intro e; rw [e] at h; revert h; decide

/-! ### a manifest that can be read -/
structure MfR (g : World) (L : List HP) (x : Mf) (e o : SA) : Prop where
  eps : RdK g L 2 (.slice e.1 x.eps.length e.2) (x.eps.map prL)
  obs : RdK g L 3 (.slice o.1 x.obs.length o.2) (x.obs.map obL)
theorem MfR.cons {x : Mf} {e o : SA} {C : HP} (h : MfR g L x e o) : MfR g (C :: L) x e o := ⟨h.eps.cons, h.obs.cons⟩
/-- What the slices of a manifest are. -/
abbrev mfP (x : Mf) (e o : SA) : List HP := [rowK 2 (.slice e.1 x.eps.length e.2) (x.eps.map prL), rowK 3 (.slice o.1 x.obs.length o.2) (x.obs.map obL)]
theorem MfR.own {x : Mf} {e o : SA} (i j : Nat) (hi : L[i]? = some (rowK 2 (.slice e.1 x.eps.length e.2) (x.eps.map prL))) (hj : L[j]? = some (rowK 3 (.slice o.1 x.obs.length o.2) (x.obs.map obL))) : MfR g L x e o := ⟨RdK.row i hi, RdK.row j hj⟩
theorem prL_at {l : List Pr} {k : Nat} {x : Pr} (h : l[k]? = some x) : (l.map prL)[k]? = some (prL x) := by simp [h]
theorem obL_at {l : List Ob} {k : Nat} {x : Ob} (h : l[k]? = some x) : (l.map obL)[k]? = some (obL x) := by simp [h]
theorem prL_rows (l : List Pr) : ∀ r ∈ l.map prL, r.length = 2 ∧ ∀ u ∈ r, u.oneCell' = true := fun r hr => by
  obtain ⟨x, _, rfl⟩ := List.mem_map.1 hr
  refine ⟨rfl, fun u hu => ?_⟩
  simp only [prL, List.mem_cons, List.not_mem_nil, or_false] at hu
  rcases hu with rfl | rfl <;> rfl
theorem obL_rows (l : List Ob) : ∀ r ∈ l.map obL, r.length = 3 ∧ ∀ u ∈ r, u.oneCell' = true := fun r hr => by
  obtain ⟨x, _, rfl⟩ := List.mem_map.1 hr
  refine ⟨rfl, fun u hu => ?_⟩
  simp only [obL, List.mem_cons, List.not_mem_nil, or_false] at hu
  rcases hu with rfl | rfl | rfl <;> rfl

/-! ### a view -/
def itmV (i : Itm) (e o : SA) : Value := .agg (.int .i64 i.st :: mfL i.m e o).toArray
def itmC (v : Value) (i : Itm) : HP := ex fun s : SA × SA => also (stars (mfP i.m s.1 s.2)) (v = itmV i s.1 s.2)
theorem Mem.openItm {v : Value} {i : Itm} (hs : Mem g w (itmC v i :: L)) : ∃ e o, v = itmV i e o ∧ Mem g w (mfP i.m e o ++ L) := by
  obtain ⟨⟨e, o⟩, h⟩ := hs.unex
  obtain ⟨h1, h2⟩ := h.unalso
  exact ⟨e, o, h1, h2.unstars⟩
theorem Mem.closeItm {i : Itm} {e o : SA} (hs : Mem g w (mfP i.m e o ++ L)) : Mem g w (itmC (itmV i e o) i :: L) :=
  Mem.ex (f := fun s : SA × SA => Go.Proofs.YtkogkokmcmallaaGreatDoor.also (Go.Proofs.YtkogkokmcmallaaGreatDoor.stars (mfP i.m s.1 s.2)) (itmV i e o = itmV i s.1 s.2)) (e, o) (Mem.also rfl hs.stars)
structure Vw.ok (V : Vw) : Prop where
  nd : (keysOf V).Nodup
  fine : ∀ x ∈ V, (mfF x.2.m).1 = 0 ∧ x.2.m.id = x.1 ∧ 1 ≤ x.2.st ∧ x.2.st ≤ 4
  few : V.length ≤ 4096
abbrev mapV (m : Nat) (es : List (Int × Value)) : HP := mapC (Value.int .i64) m es
abbrev viewP (p m : Nat) (es : List (Int × Value)) (V : Vw) : List HP := [cells p [.map (some m)] 162, mapV m es, famC itmC es V]
def ViewC (p : Nat) (V : Vw) : HP := ex fun x : Nat × List (Int × Value) => also (stars (viewP p x.1 x.2 V)) V.ok
theorem Mem.openV {V : Vw} (hs : Mem g w (ViewC p V :: L)) : V.ok ∧ ∃ m es, Mem g w (viewP p m es V ++ L) := by
  obtain ⟨⟨m, es⟩, h⟩ := hs.unex
  obtain ⟨h1, h2⟩ := h.unalso
  exact ⟨h1, m, es, h2.unstars⟩
theorem Mem.closeV {V : Vw} {m : Nat} {es : List (Int × Value)} (ho : V.ok) (hs : Mem g w (viewP p m es V ++ L)) : Mem g w (ViewC p V :: L) :=
  Mem.ex (f := fun x : Nat × List (Int × Value) => Go.Proofs.YtkogkokmcmallaaGreatDoor.also (Go.Proofs.YtkogkokmcmallaaGreatDoor.stars (viewP p x.1 x.2 V)) V.ok) (m, es) (Mem.also ho hs.stars)
theorem Mem.closeV1 {C : HP} {V : Vw} {m : Nat} {es : List (Int × Value)} (ho : V.ok) (hs : Mem g w (C :: (viewP p m es V ++ L))) : Mem g w (C :: ViewC p V :: L) :=
  (Mem.closeV (L := C :: L) ho (hs.arr [1, 2, 3, 0] 4 (by decide))).arr [1, 0] 2 (by decide)
theorem keys_len {κ α β : Type} {l : List (κ × α)} {m : List (κ × β)} (h : keysOf l = keysOf m) : l.length = m.length := by
  have := congrArg List.length h
  simpa [keysOf] using this
end Go.Proofs.YtkogkokmcmallaaGreatDoor
