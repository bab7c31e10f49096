/- Errors in the walk by registers: what is known of the sentinels at the ground; tests of errors. -/
import Derived.Test.YtmnfehbnjgmgjaaDoorM
import Derived.Test.YtmnfehbnjgmgjaaDoorErr
namespace Go.Proofs.YtmnfehbnjgmgjaaDoor
set_option linter.all false
open Go.RowKit
variable {n : Nat} {ops : Array Oper} {rest : List Oper} {K : Env → World → Prop} {ρ : Env} {g w : World} {L : List HP} {dst : Option Tmp} {ty : TypeId} {pos : String} {aft : Array Edge}

/-- The codes that the store, the client, the parts speak of. -/
def coreCodes : List Nat := [104, 105, 106, 107, 111]
theorem core_all {c : Nat} (h : c ∈ coreCodes) : c ∈ allCodes := by
  simp only [coreCodes, allCodes, List.mem_cons, List.not_mem_nil, or_false] at *; omega
/-- At the ground the sentinels of these codes lie in memory. -/
abbrev ErrG (ad : Nat → Addr) (g : World) : Prop := Errs coreCodes ad g.heap.size g
/-- At the ground all sentinels lie in memory. -/
abbrev ErrA (ad : Nat → Addr) (g : World) : Prop := Errs allCodes ad g.heap.size g
theorem Errs.core {ad : Nat → Addr} {B : Nat} {w : World} (h : Errs allCodes ad B w) : Errs coreCodes ad B w :=
  ⟨fun c hc => h.pos c (core_all hc), fun c hc => h.cell c (core_all hc), fun c hc => h.block c (core_all hc), fun c hc d hd => h.inj c (core_all hc) d (core_all hd), fun c hc => h.lt c (core_all hc)⟩
theorem Errs.atW {Lc : List Nat} {ad : Nat → Addr} {g w : World} (h : Errs Lc ad g.heap.size g) {L : List HP} (hs : Mem g w L) : Errs Lc ad g.heap.size w := h.below hs.below0
/-- The cell of a sentinel. -/
theorem Errs.cellW {Lc : List Nat} {ad : Nat → Addr} {g w : World} (h : Errs Lc ad g.heap.size g) {L : List HP} (hs : Mem g w L) (c : Nat) (hc : c ∈ Lc) {x : Nat} (hx : gidx c = x) : w.cell? ⟨x, 0, none⟩ = some (errV ad c) := by
  subst hx
  exact hs.cellOld (h.cell c hc)
theorem guard_code (ad : Nat → Addr) (op : BinOp) (t : TypeId) (x y : Operand) {w : World} (c : Nat) {d : Nat} (hd : d ≠ 0) : (eqGuard op t x y (errV ad c) (errV ad d)).run Tryd.prog w = .ok () w := by
  rw [errV_pos ad hd]
  by_cases h : c = 0
  · subst h; rw [errV_zero]; cases op <;> rfl
  · rw [errV_pos ad h]; cases op <;> rfl
theorem eqGuard_err {op : BinOp} {ad : Nat → Addr} {t : TypeId} {x : Operand} {c : Nat} : (eqGuard op t x (.const .nilIface) (errV ad c) .nilIface).run Tryd.prog w = .ok () w := by
  by_cases h : c = 0
  · subst h; rw [errV_zero]; cases op <;> cases x <;> rfl
  · rw [errV_pos ad h]; cases op <;> rfl
theorem equal_errn {ad : Nat → Addr} {c : Nat} : (Op.equal 30 (errV ad c) .nilIface).run Tryd.prog w = .ok (decide (c = 0)) w := by
  show (Op.equalIn 10000 _ _ _).run Tryd.prog w = _
  rw [Op.equalIn]
  by_cases h : c = 0
  · subst h; rw [errV_zero]; simp [run_underlying Tryd.underlying30]
  · rw [errV_pos ad h]; simp [run_underlying Tryd.underlying30, h]
theorem binOp_errn {ad : Nat → Addr} {c : Nat} : binOp .eql 30 (errV ad c) .nilIface = (do pure (.bool (← Op.equal 30 (errV ad c) .nilIface))) := by
  by_cases h : c = 0
  · subst h; rw [errV_zero]; rfl
  · rw [errV_pos ad h]; rfl
theorem binOp_errne {ad : Nat → Addr} {c : Nat} : binOp .neq 30 (errV ad c) .nilIface = (do pure (.bool (!(← Op.equal 30 (errV ad c) .nilIface)))) := by
  by_cases h : c = 0
  · subst h; rw [errV_zero]; rfl
  · rw [errV_pos ad h]; rfl
theorem run_eqerrn {x : Operand} {u : TypeId} {ad : Nat → Addr} {c : Nat} (hx : ev ρ x = errV ad c) : (execOp (ev ρ) ⟨dst, .binOp .eql 30 x (.const .nilIface) u, ty, pos, aft, none⟩).run Tryd.prog w = .ok (.value (.bool (decide (c = 0)))) w := by
  have hy : ev ρ (.const .nilIface) = .nilIface := rfl
  simp only [execOp, hx, hy, Sem.run_bind, eqGuard_err, binOp_errn, equal_errn, Result.andThen_ok, Sem.run_pure]
theorem run_neerrn {x : Operand} {u : TypeId} {ad : Nat → Addr} {c : Nat} (hx : ev ρ x = errV ad c) : (execOp (ev ρ) ⟨dst, .binOp .neq 30 x (.const .nilIface) u, ty, pos, aft, none⟩).run Tryd.prog w = .ok (.value (.bool (!decide (c = 0)))) w := by
  have hy : ev ρ (.const .nilIface) = .nilIface := rfl
  simp only [execOp, hx, hy, Sem.run_bind, eqGuard_err, binOp_errne, equal_errn, Result.andThen_ok, Sem.run_pure]
theorem run_eqnn {x : Operand} {u : TypeId} (hx : ev ρ x = .nilIface) : (execOp (ev ρ) ⟨dst, .binOp .eql 30 x (.const .nilIface) u, ty, pos, aft, none⟩).run Tryd.prog w = .ok (.value (.bool true)) w := run_eqerrn (ad := fun _ => ⟨0, 0, none⟩) (c := 0) hx
theorem run_nenn {x : Operand} {u : TypeId} (hx : ev ρ x = .nilIface) : (execOp (ev ρ) ⟨dst, .binOp .neq 30 x (.const .nilIface) u, ty, pos, aft, none⟩).run Tryd.prog w = .ok (.value (.bool false)) w := run_neerrn (ad := fun _ => ⟨0, 0, none⟩) (c := 0) hx
/-- One of ours against a sentinel. -/
theorem equal_err {Lc : List Nat} {ad : Nat → Addr} {B : Nat} (h : Errs Lc ad B w) {c d : Nat} (hc : c = 0 ∨ c ∈ Lc) (hd : d ∈ Lc) : (Op.equal 30 (errV ad c) (errV ad d)).run Tryd.prog w = .ok (decide (c = d)) w := by
  rcases hc with rfl | hc
  · have hd0 := h.pos d hd
    have : ¬ (0 = d) := fun e => hd0 e.symm
    rw [errV_zero, errV_pos ad hd0]
    show (Op.equalIn 10000 _ _ _).run Tryd.prog w = _
    rw [Op.equalIn]
    simp [run_underlying Tryd.underlying30, this]
  · have hr := run_eql_errs h hc hd
    rw [errV_pos ad (h.pos c hc), errV_pos ad (h.pos d hd)]
    have e : binOp .eql 30 (.iface 192 (.pointer (some (ad c)))) (.iface 192 (.pointer (some (ad d)))) = (do pure (.bool (← Op.equal 30 (.iface 192 (.pointer (some (ad c)))) (.iface 192 (.pointer (some (ad d))))))) := rfl
    rw [e] at hr
    simp only [Sem.run_bind] at hr
    generalize hq : (Op.equal 30 (.iface 192 (.pointer (some (ad c)))) (.iface 192 (.pointer (some (ad d))))).run Tryd.prog w = r at hr
    cases r with
    | ok b w' =>
      simp only [Result.andThen_ok, Sem.run_pure, Result.ok.injEq, Value.bool.injEq] at hr
      obtain ⟨rfl, rfl⟩ := hr
      congr 1
    | halt x w' => cases hr
theorem binOp_err {ad : Nat → Addr} {c d : Nat} : binOp .eql 30 (errV ad c) (errV ad d) = (do pure (.bool (← Op.equal 30 (errV ad c) (errV ad d)))) := by
  by_cases h : c = 0 <;> by_cases k : d = 0 <;> simp only [errV, h, k, if_true, if_false] <;> rfl
theorem binOp_errN {ad : Nat → Addr} {c d : Nat} : binOp .neq 30 (errV ad c) (errV ad d) = (do pure (.bool (!(← Op.equal 30 (errV ad c) (errV ad d))))) := by
  by_cases h : c = 0 <;> by_cases k : d = 0 <;> simp only [errV, h, k, if_true, if_false] <;> rfl
theorem run_eqerr {x y : Operand} {u : TypeId} {Lc : List Nat} {ad : Nat → Addr} {B : Nat} (h : Errs Lc ad B w) {c d : Nat} (hc : c = 0 ∨ c ∈ Lc) (hd : d ∈ Lc) (hx : ev ρ x = errV ad c) (hy : ev ρ y = errV ad d) : (execOp (ev ρ) ⟨dst, .binOp .eql 30 x y u, ty, pos, aft, none⟩).run Tryd.prog w = .ok (.value (.bool (decide (c = d)))) w := by
  have hgd := guard_code ad .eql 30 x y (w := w) c (h.pos d hd)
  simp only [execOp, hx, hy, Sem.run_bind, hgd, binOp_err, equal_err h hc hd, Result.andThen_ok, Sem.run_pure]
end Go.Proofs.YtmnfehbnjgmgjaaDoor
