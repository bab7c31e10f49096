/- Structs within a block; results of any kind; type assertions on errors. -/
import Derived.Test.YtmnfehbnjgmgjaaDoorK
import Derived.Deep.MidRow
import Derived.Laws.CopyRow
namespace Go.Proofs.YtmnfehbnjgmgjaaDoor
set_option linter.all false
open Go.RowKit
variable {P : Program} {n : Nat} {ops : Array Oper} {rest : List Oper} {K : Env → World → Prop} {ρ : Env} {g w : World} {L : List HP} {dst : Option Tmp} {ty : TypeId} {pos : String} {aft : Array Edge}

/-- A struct within a block is read. -/
theorem run_loadMid (hs : Mem g w L) (i : Nat) (vs : List Value) {x : Operand} {t : TypeId} {b o : Nat} {cs : List Value} {T : TypeId} (hi : L[i]? = some (cells b cs T)) {fs : Array Field} (ht : P.underlying t = some (.struct fs)) (hsz : (P.info? t).map (·.size) = some vs.length) (hv : (cs.drop o).take vs.length = vs) (hx : ev ρ x = .pointer (some ⟨b, o, none⟩)) :
    (execOp (ev ρ) ⟨dst, .load t x, ty, pos, aft, none⟩).run P w = .ok (.value (.agg vs.toArray)) w := by
  have hc : w.rangeAt b o vs := fun j v hj => by
    have hlt := (List.getElem?_eq_some_iff.1 hj).1
    have h2 : ((cs.drop o).take vs.length)[j]? = some v := by rw [hv]; exact hj
    rw [List.getElem?_take_of_lt hlt, List.getElem?_drop] at h2
    exact hs.cellAt i hi h2
  simp only [execOp, hx, Sem.run_bind, run_loadAt_mid w b o t vs _ hc ht rfl hsz, Result.andThen_ok, Sem.run_pure]
/-- A struct within a block is written. -/
theorem lw_storeMid (hs : Mem g w L) (i : Nat) (cs' : List Value) {x y : Operand} {t : TypeId} {b o : Nat} {cs vs : List Value} {T : TypeId} (hi : L[i]? = some (cells b cs T)) (hx : ev ρ x = .pointer (some ⟨b, o, none⟩)) (hy : ev ρ y = .agg vs.toArray) (hsz : (P.info? t).map (·.size) = some vs.length) (hl : Nat.ble (o + vs.length) cs.length = true) (h1 : vs.all (·.oneCell') = true) (hcs : cs.take o ++ vs ++ cs.drop (o + vs.length) = cs')
    (h : ∀ w', Mem g w' (L.set i (cells b cs' T)) → lw P n ops rest K ρ w') : lw P n ops (⟨none, .store t x y, ty, pos, aft, none⟩ :: rest) K ρ w := by
  obtain ⟨F, ⟨g1, g2⟩, g3⟩ := hs.turn hi
  have hl' : o + vs.length ≤ cs.length := by simpa using hl
  have h1' : ∀ v ∈ vs, v.oneCell' = true := by simpa using h1
  obtain ⟨inf, hinf, hsz⟩ := Option.map_eq_some_iff.1 hsz
  have hst : (storeVar t ⟨b, o, none⟩ (.agg vs.toArray)).run P w = .ok () (w.setRow b cs'.toArray) := by
    have := run_storeCells_at (P := P) b o T vs 0 cs.toArray w g1 (by simpa using hl') h1'
    rw [← hcs]
    simpa [storeVar, sizeOf, typeInfo, hinf, hsz, Value.cells] using this
  refine lw_skip rfl (w' := w.setRow b cs'.toArray) ?_ (h _ (g3 _ (cells b cs' T) F ⟨setRow_heap w b cs.toArray cs'.toArray T (0, 0) g1, g2⟩ (fun b hb => .inl hb) ⟨rfl, rfl, rfl, by simp [World.setRow], fun k _ hk => setRow_other w b k _ (fun e => hk ((g2 k).2 e))⟩))
  simp [execOp, hx, hy, Instr.storeAt, Instr.sureAddr, hst]

/-! ### results -/
def ResIs (P : Program) (w : World) (ρ : Env) : ResultVar → Value → Prop
  | .tmp t, v => ρ t = v
  | .cell a T, v => ∃ x, ρ a = .pointer (some x) ∧ (loadVar T x).run P w = .ok v w
def AllR (P : Program) (w : World) (ρ : Env) : List (ResultVar × Value) → Prop
  | [] => True
  | r :: l => ResIs P w ρ r.1 r.2 ∧ AllR P w ρ l
def resValue : List Value → Value
  | [v] => v
  | l => .tuple l.toArray
def resOp (tmps : Array Value) : ResultVar → Sem Value
  | .tmp t => pure (tmps.getD t undef)
  | .cell a t => do loadVar t (← asAddr (tmps.getD a undef))
theorem results_list {tmps : Array Value} : ∀ (rs : List (ResultVar × Value)), (∀ t, tmps.getD t undef = ρ t) → AllR P w ρ rs → ((rs.map (·.1)).mapM (resOp tmps)).run P w = .ok (rs.map (·.2)) w
  | [], _, _ => by simp
  | (r, v) :: rs, ht, ⟨h1, h2⟩ => by
    have ih := results_list rs ht h2
    have hd : (resOp tmps r).run P w = .ok v w := by
      cases r with
      | tmp t => have e : ρ t = v := h1; simp only [resOp, ht, e, Sem.run_pure]
      | cell a T =>
        obtain ⟨x, e1, e2⟩ := h1
        simp only [resOp, ht, e1, Sem.run_bind]
        simp [asAddr, e2]
    simp only [List.map_cons, List.mapM_cons, Sem.run_bind, hd, Result.andThen_ok, ih, Sem.run_pure]
theorem resG {fn : Func} {R : Ending → World → Prop} (rs : List (ResultVar × Value)) (h : fn.results = (rs.map (·.1)).toArray) (hall : AllR P w ρ rs) (hR : R (.returned (resValue (rs.map (·.2)))) w) : ResE (n := n) P fn R ρ w := fun a ha => by
  refine ⟨_, ?_, hR⟩
  have h1 := results_list (tmps := a.tmps) rs ha.get hall
  show ((do let vs ← fn.results.mapM (resOp a.tmps); pure (if h : vs.size = 1 then vs[0] else .tuple vs)) : Sem Value).run P w = _
  rw [h, List.mapM_toArray]
  simp only [Sem.run_bind, Sem.run_map, h1, Result.andThen_ok, Sem.run_pure]
  match rs with
  | [] => rfl
  | [r] => rfl
  | r :: s :: rs => simp [resValue]
theorem res_row (hs : Mem g w L) (i : Nat) {T : TypeId} {b : Nat} {cs : List Value} {T' : TypeId} (hi : L[i]? = some (cells b cs T')) {fs : Array Field} (hT : P.underlying T = some (.struct fs)) (hsz : (P.info? T).map (·.size) = some cs.length) : (loadVar T ⟨b, 0, none⟩).run P w = .ok (.agg cs.toArray) w := by
  obtain ⟨F, h1, _⟩ := hs.read hi
  have hagg : (isAgg T).run P w = .ok true w := by simp [isAgg, run_underlying hT]
  exact run_loadVar_row (P := P) (T := T) (vs := cs.toArray) hagg (by simpa using hsz) h1
end Go.Proofs.YtmnfehbnjgmgjaaDoor
