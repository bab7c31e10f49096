/- Manifests: the leaves: pairs, objects, copies, equality. -/
import Derived.Test.YtkogkokmcmallaaGreatDoorFl
import Derived.Test.YtkogkokmcmallaaGreatDoorG
import Derived.Laws.StructEq
namespace Go.Proofs.YtkogkokmcmallaaGreatDoor
set_option linter.all false
open Go.RowKit
attribute [local irreducible] errV
variable {g w : World} {L M : List HP} {ad : Nat → Addr} {p : Nat}

/-! ### equality of pairs, of objects -/
section
variable {ρ : Env} {dst : Option Tmp} {ty : TypeId} {pos : String} {aft : Array Edge} {x y : Operand} {u : TypeId}
theorem prL_inj {a b : Pr} (h : prL a = prL b) : a = b := by
  obtain ⟨a1, a2⟩ := a
  obtain ⟨b1, b2⟩ := b
  simp only [prL, List.cons.injEq, Value.int.injEq, true_and, and_true] at h
  rw [h.1, h.2]
theorem equal_pr (a b : Pr) : (Op.equalIn 10000 141 (.agg (prL a).toArray) (.agg (prL b).toArray)).run Tryz.prog w = .ok (decide (a = b)) w := by
  have hS : Tryz.prog.underlying 141 = some (.struct (Tryz.prog.fieldsOf 141)) := by kernel_rfl
  have hp : Tryz.prog.stoodInHeld 141 = false := by kernel_rfl
  have u3 := Tryz.underlying3
  have a3 := Tryz.isAgg3
  have z3 := Tryz.sizeOf3
  have u2 := Tryz.underlying2
  have a2 := Tryz.isAgg2
  have z2 := Tryz.sizeOf2
  obtain ⟨a1, a2'⟩ := a
  obtain ⟨b1, b2'⟩ := b
  simp only [prL]
  rw [show (10000 : Nat) = 9999 + 1 from rfl, run_equalIn_agg w 9999 141 _ _ hS hp]
  simp only [Program.fieldsOf, Tryz.underlying141]
  go_simp
  by_cases h1 : a1 = b1 <;> by_cases h2 : a2' = b2' <;> simp [h1, h2]
theorem equal_ob (a b : Ob) : (Op.equalIn 10000 41 (.agg (obL a).toArray) (.agg (obL b).toArray)).run Tryz.prog w = .ok (decide (a = b)) w := by
  have hS : Tryz.prog.underlying 41 = some (.struct (Tryz.prog.fieldsOf 41)) := by kernel_rfl
  have hp : Tryz.prog.stoodInHeld 41 = false := by kernel_rfl
  have u3 := Tryz.underlying3
  have a3 := Tryz.isAgg3
  have z3 := Tryz.sizeOf3
  have u2 := Tryz.underlying39
  have a2 := Tryz.isAgg39
  have z2 := Tryz.sizeOf39
  have u9 := Tryz.underlying9
  have a9 := Tryz.isAgg9
  have z9 := Tryz.sizeOf9
  obtain ⟨n1, a1, a2'⟩ := a
  obtain ⟨n2, b1, b2'⟩ := b
  simp only [obL]
  rw [show (10000 : Nat) = 9999 + 1 from rfl, run_equalIn_agg w 9999 41 _ _ hS hp]
  simp only [Program.fieldsOf, Tryz.underlying41]
  go_simp
  have hn : (n1.toList = n2.toList) ↔ n1 = n2 := by
    rw [ByteArray.toList_eq, ByteArray.toList_eq]
    constructor
    · intro e
      obtain ⟨⟨x⟩⟩ := n1
      obtain ⟨⟨y⟩⟩ := n2
      have e : x = y := e
      rw [e]
    · intro e; rw [e]
  have hz : ((a2' : Int) = (b2' : Int)) ↔ a2' = b2' := by omega
  simp only [hn, hz]
  by_cases h0 : n1 = n2 <;> by_cases h1 : a1 = b1 <;> by_cases h2 : a2' = b2' <;> simp [h0, h1, h2]
theorem run_nePr {a b : Pr} (hx : ev ρ x = .agg (prL a).toArray) (hy : ev ρ y = .agg (prL b).toArray) : (execOp (ev ρ) ⟨dst, .binOp .neq 141 x y u, ty, pos, aft, none⟩).run Tryz.prog w = .ok (.value (.bool (!decide (a = b)))) w := by
  have hg : (eqGuard .neq 141 x y (.agg (prL a).toArray) (.agg (prL b).toArray)).run Tryz.prog w = .ok () w := run_eqGuard_agg w .neq _ x y _ _ (by kernel_rfl)
  simp only [execOp, hx, hy, Sem.run_bind, hg, run_neq_struct, equal_pr, Result.andThen_ok, Sem.run_pure]
theorem run_neOb {a b : Ob} (hx : ev ρ x = .agg (obL a).toArray) (hy : ev ρ y = .agg (obL b).toArray) : (execOp (ev ρ) ⟨dst, .binOp .neq 41 x y u, ty, pos, aft, none⟩).run Tryz.prog w = .ok (.value (.bool (!decide (a = b)))) w := by
  have hg : (eqGuard .neq 41 x y (.agg (obL a).toArray) (.agg (obL b).toArray)).run Tryz.prog w = .ok () w := run_eqGuard_agg w .neq _ x y _ _ (by kernel_rfl)
  simp only [execOp, hx, hy, Sem.run_bind, hg, run_neq_struct, equal_ob, Result.andThen_ok, Sem.run_pure]
end
theorem len_prL (l : List Pr) : (l.map prL).length = l.length := by simp
theorem len_obL (l : List Ob) : (l.map obL).length = l.length := by simp
/-! ### right -/
theorem right_sl (hs : Mem g w L) (n : Int) : Calls Tryz.prog 190 #[.int .i64 n] w (Ret fun v w' => v = .bool (rightN n) ∧ Mem g w' L) := by
  refine calls_cw Tryz.func190 rfl rfl ?_
  skip
  refine cw_seq ?_
  refine cw_region ?_
  refine lw_val rfl (run_assign (v := .bool _) rfl) ?_
  refine lw_nil ?_
  refine cw_seq ?_
  refine cw_region ?_
  refine lw_val rfl (run_move (v := .int .i64 _) rfl) ?_
  refine lw_val rfl (run_geq rfl rfl) ?_
  refine lw_val rfl (run_move (v := .bool _) rfl) ?_
  refine lw_split (t := _) (d := 5) rfl ?_ ?_
  · intro h4
    have g4 := of_decide_eq_true h4
    refine lw_on rfl rfl h4 ?_
    refine lw_val rfl (run_move (v := .int .i64 _) rfl) ?_
    refine lw_on rfl rfl h4 ?_
    refine lw_val rfl (run_leq rfl rfl) ?_
    refine lw_val rfl (run_pickT (v := .bool _) rfl h4 rfl) ?_
    refine lw_val rfl (run_assign (v := .bool _) rfl) ?_
    refine lw_nil ?_
    refine cw_ret ?_
    refine res1 (v := .bool _) rfl rfl ?_
    exact ⟨_, rfl, ret_b (by rw [Bool.eq_iff_iff]; simp [rightN]; omega), hs⟩
  · intro h4
    have g4 := of_decide_eq_false h4
    refine lw_off rfl rfl rfl h4 ?_
    refine lw_off rfl rfl rfl h4 ?_
    refine lw_val rfl (run_pickF (v := .bool _) rfl h4 rfl) ?_
    refine lw_val rfl (run_assign (v := .bool _) rfl) ?_
    refine lw_nil ?_
    refine cw_ret ?_
    refine res1 (v := .bool _) rfl rfl ?_
    exact ⟨_, rfl, ret_b (by rw [Bool.eq_iff_iff]; simp [rightN]; omega), hs⟩
theorem prRight_sl (hs : Mem g w L) (q : Pr) : Calls Tryz.prog 235 #[.agg (prL q).toArray] w (Ret fun v w' => v = .bool (prOk q) ∧ Mem g w' L) := by
  obtain ⟨a, b⟩ := q
  refine calls_cw Tryz.func235 rfl rfl ?_
  skip
  refine cw_seq ?_
  refine cw_region ?_
  refine lw_box (v := .agg _) hs rfl rfl ?_
  clear hs
  intro b1 w hs
  try simp only [List.set_cons_succ, List.set_cons_zero] at hs
  refine lw_val rfl (run_assign (v := .bool _) rfl) ?_
  refine lw_nil ?_
  refine cw_seq ?_
  refine cw_region ?_
  refine lw_val rfl (run_fieldAddr (o' := 0) Tryz.underlying141 rfl sz3 rfl rfl rfl) ?_
  refine lw_val rfl (run_load Tryz.underlying3 rfl rfl (hs.cellAt 0 rfl rfl)) ?_
  refine lw_val rfl (run_geq rfl rfl) ?_
  refine lw_val rfl (run_move (v := .bool _) rfl) ?_
  refine lw_split (t := _) (d := 6) rfl ?_ ?_
  · intro h5
    have g5 := of_decide_eq_true h5
    refine lw_on rfl rfl h5 ?_
    refine lw_val rfl (run_fieldAddr (o' := 0) Tryz.underlying141 rfl sz3 rfl rfl rfl) ?_
    refine lw_on rfl rfl h5 ?_
    refine lw_val rfl (run_load Tryz.underlying3 rfl rfl (hs.cellAt 0 rfl rfl)) ?_
    refine lw_on rfl rfl h5 ?_
    refine lw_val rfl (run_leq rfl rfl) ?_
    refine lw_val rfl (run_pickT (v := .bool _) rfl h5 rfl) ?_
    refine lw_val rfl (run_move (v := .bool _) rfl) ?_
    refine lw_split (t := _) (d := 11) rfl ?_ ?_
    · intro h9
      have g9 := of_decide_eq_true h9
      refine lw_on rfl rfl h9 ?_
      refine lw_val rfl (run_fieldAddr (o' := 1) Tryz.underlying141 rfl sz2 rfl rfl rfl) ?_
      refine lw_on rfl rfl h9 ?_
      refine lw_val rfl (run_load Tryz.underlying2 rfl rfl (hs.cellAt 0 rfl rfl)) ?_
      refine lw_on rfl rfl h9 ?_
      refine lw_val rfl (run_geq rfl rfl) ?_
      refine lw_val rfl (run_pickT (v := .bool _) rfl h9 rfl) ?_
      refine lw_val rfl (run_move (v := .bool _) rfl) ?_
      refine lw_split (t := _) (d := 16) rfl ?_ ?_
      · intro h14
        have g14 := of_decide_eq_true h14
        refine lw_on rfl rfl h14 ?_
        refine lw_val rfl (run_fieldAddr (o' := 1) Tryz.underlying141 rfl sz2 rfl rfl rfl) ?_
        refine lw_on rfl rfl h14 ?_
        refine lw_val rfl (run_load Tryz.underlying2 rfl rfl (hs.cellAt 0 rfl rfl)) ?_
        refine lw_on rfl rfl h14 ?_
        refine lw_val rfl (run_leq rfl rfl) ?_
        refine lw_val rfl (run_pickT (v := .bool _) rfl h14 rfl) ?_
        refine lw_val rfl (run_assign (v := .bool _) rfl) ?_
        refine lw_nil ?_
        refine cw_ret ?_
        refine res1 (v := .bool _) rfl rfl ?_
        exact ⟨_, rfl, ret_b (by rw [Bool.eq_iff_iff]; simp [prOk, rightE, rightN]; omega), hs.tail⟩
      · intro h14
        have g14 := of_decide_eq_false h14
        refine lw_off rfl rfl rfl h14 ?_
        refine lw_off rfl rfl rfl h14 ?_
        refine lw_off rfl rfl rfl h14 ?_
        refine lw_val rfl (run_pickF (v := .bool _) rfl h14 rfl) ?_
        refine lw_val rfl (run_assign (v := .bool _) rfl) ?_
        refine lw_nil ?_
        refine cw_ret ?_
        refine res1 (v := .bool _) rfl rfl ?_
        exact ⟨_, rfl, ret_b (by rw [Bool.eq_iff_iff]; simp [prOk, rightE, rightN]; omega), hs.tail⟩
    · intro h9
      have g9 := of_decide_eq_false h9
      refine lw_off rfl rfl rfl h9 ?_
      refine lw_off rfl rfl rfl h9 ?_
      refine lw_off rfl rfl rfl h9 ?_
      refine lw_val rfl (run_pickF (v := .bool _) rfl h9 rfl) ?_
      refine lw_val rfl (run_move (v := .bool _) rfl) ?_
      refine lw_off rfl rfl rfl rfl ?_
      refine lw_off rfl rfl rfl rfl ?_
      refine lw_off rfl rfl rfl rfl ?_
      refine lw_val rfl (run_pickF (v := .bool _) rfl rfl rfl) ?_
      refine lw_val rfl (run_assign (v := .bool _) rfl) ?_
      refine lw_nil ?_
      refine cw_ret ?_
      refine res1 (v := .bool _) rfl rfl ?_
      exact ⟨_, rfl, ret_b (by rw [Bool.eq_iff_iff]; simp [prOk, rightE, rightN]; omega), hs.tail⟩
  · intro h5
    have g5 := of_decide_eq_false h5
    refine lw_off rfl rfl rfl h5 ?_
    refine lw_off rfl rfl rfl h5 ?_
    refine lw_off rfl rfl rfl h5 ?_
    refine lw_val rfl (run_pickF (v := .bool _) rfl h5 rfl) ?_
    refine lw_val rfl (run_move (v := .bool _) rfl) ?_
    refine lw_off rfl rfl rfl rfl ?_
    refine lw_off rfl rfl rfl rfl ?_
    refine lw_off rfl rfl rfl rfl ?_
    refine lw_val rfl (run_pickF (v := .bool _) rfl rfl rfl) ?_
    refine lw_val rfl (run_move (v := .bool _) rfl) ?_
    refine lw_off rfl rfl rfl rfl ?_
    refine lw_off rfl rfl rfl rfl ?_
    refine lw_off rfl rfl rfl rfl ?_
    refine lw_val rfl (run_pickF (v := .bool _) rfl rfl rfl) ?_
    refine lw_val rfl (run_assign (v := .bool _) rfl) ?_
    refine lw_nil ?_
    refine cw_ret ?_
    refine res1 (v := .bool _) rfl rfl ?_
    exact ⟨_, rfl, ret_b (by rw [Bool.eq_iff_iff]; simp [prOk, rightE, rightN]; omega), hs.tail⟩
theorem prBad_sl (hs : Mem g w L) (q : Pr) : Calls Tryz.prog 234 #[.agg (prL q).toArray] w (Ret fun v w' => v = .bool (!prOk q) ∧ Mem g w' L) := by
  refine calls_cw Tryz.func234 rfl rfl ?_
  skip
  refine cw_seq ?_
  refine cw_region ?_
  refine lw_box (v := .agg _) hs rfl rfl ?_
  clear hs
  intro b1 w hs
  try simp only [List.set_cons_succ, List.set_cons_zero] at hs
  refine lw_val rfl (run_assign (v := .bool _) rfl) ?_
  refine lw_nil ?_
  refine cw_seq ?_
  refine cw_region ?_
  refine lw_val rfl (run_loadRow hs 0 rfl Tryz.underlying141 sz141 rfl) ?_
  refine lw_call rfl en235 (prRight_sl hs q) ?_
  clear hs
  rintro _ w ⟨rfl, hs⟩
  refine lw_val rfl (run_not rfl) ?_
  refine lw_val rfl (run_assign (v := .bool _) rfl) ?_
  refine lw_nil ?_
  refine cw_ret ?_
  refine res1 (v := .bool _) rfl rfl ?_
  exact ⟨_, rfl, rfl, hs.tail⟩
theorem idxP_sl (hs : Mem g w L) {a : Option Addr} {n c : Nat} {l : List Pr} (hr : RdK g L 2 (.slice a n c) (l.map prL)) (hn : n = l.length) (hlen : l.length ≤ 1000000) : Calls Tryz.prog 268 #[.slice a n c, .func (.func 234) #[] #[]] w (Ret fun v w' => ∃ r : Int, (0 ≤ r ↔ l.all prOk = false) ∧ v = .int .i64 r ∧ Mem g w' L) := by
  subst hn
  refine calls_cw Tryz.func268 rfl rfl ?_
  skip
  refine cw_seq ?_
  refine cw_region ?_
  refine lw_val rfl (run_assign (v := .int .i64 _) rfl) ?_
  refine lw_nil ?_
  refine cw_seq ?_
  refine cw_seq ?_
  refine cw_region ?_
  refine lw_val rfl (run_move (v := .slice _ _ _) rfl) ?_
  refine lw_val rfl (run_lenS Tryz.underlying33 rfl) ?_
  refine lw_val rfl (run_move (v := .int .i64 _) rfl) ?_
  refine lw_nil ?_
  refine cw_block ?_
  refine cw_loop (X := Nat) [4, 5, 8, 9, 10, 11, 12, 13, 14, 15, 16, 17, 18] (fun k => [(8, .int .i64 (k : Nat))]) (fun k w => k ≤ l.length ∧ (l.take k).all prOk = true ∧ Mem g w L) (fun k => l.length - k) (0) ?_ ?_ ?_
  · exact ⟨rfl, trivial⟩
  · exact ⟨Nat.zero_le _, rfl, hs⟩
  clear hs
  rintro x ξ w hI
  obtain ⟨hk, hq, hs⟩ := hI
  refine cw_seq ?_
  refine cw_region ?_
  refine lw_val rfl (run_lss rfl rfl) ?_
  refine lw_nil ?_
  refine cw_seq ?_
  refine cw_if rfl ?_ ?_
  · intro h9
    have g9 := of_decide_eq_true h9
    obtain ⟨y, hy⟩ : ∃ y, l[x]? = some y := ⟨_, List.getElem?_eq_getElem (by omega)⟩
    obtain ⟨b1, o1, rfl⟩ := hr.at hs (by rw [len_prL]; omega)
    refine cw_skip ?_
    refine cw_seq ?_
    refine cw_block ?_
    refine cw_seq ?_
    refine cw_region ?_
    refine lw_val rfl (run_move (v := .int .i64 _) rfl) ?_
    refine lw_val rfl (run_assign (v := .int .i64 _) rfl) ?_
    refine lw_nil ?_
    refine cw_seq ?_
    refine cw_region ?_
    refine lw_val rfl (run_move (v := .func _ _ _) rfl) ?_
    refine lw_val rfl (run_move (v := .slice _ _ _) rfl) ?_
    refine lw_val rfl (run_move (v := .int .i64 _) rfl) ?_
    refine lw_val rfl (run_indexAddrK Tryz.underlying33 sz141 rfl rfl rfl (by omega) rfl) ?_
    refine lw_val rfl (run_loadK (cs := prL y) Tryz.underlying141 sz141 rfl (fun j v hj => hr.cell hs (prL_at hy) hj)) ?_
    refine lw_callv rfl (cap := #[]) en234 rfl (prBad_sl hs y) ?_
    clear hs
    rintro _ w ⟨rfl, hs⟩
    refine lw_nil ?_
    refine cw_if rfl ?_ ?_
    · intro h16
      refine cw_seq ?_
      refine cw_region ?_
      refine lw_val rfl (run_move (v := .int .i64 _) rfl) ?_
      refine lw_val rfl (run_assign (v := .int .i64 _) rfl) ?_
      refine lw_nil ?_
      refine cw_ret ?_
      refine res1 (v := .int .i64 _) rfl rfl ?_
      exact ⟨_, rfl, (x : Nat), ⟨fun _ => Bool.eq_false_iff.2 (fun h => absurd ((List.all_eq_true.1 h y (List.mem_of_getElem? hy)).symm.trans (not_b h16)) (by decide)), fun _ => by omega⟩, rfl, hs⟩
    · intro h16
      refine cw_skip ?_
      refine cw_region ?_
      refine lw_val rfl (run_add64 rfl rfl rfl (inI (by omega) (by omega))) ?_
      refine lw_val rfl (run_move (v := .int .i64 _) rfl) ?_
      refine lw_nil ?_
      exact ⟨x + 1, by omega, ⟨by omega, by rw [List.take_add_one, hy]; simp [hq, not_c h16], hs⟩, ⟨rfl, trivial⟩, by repeat (first | exact Out.mix _ _ _ | refine Out.updo rfl ?_ | refine Out.upd rfl ?_ | refine Out.mixIn rfl ?_)⟩
  · intro h9
    have g9 := of_decide_eq_false h9
    refine cw_exit rfl ?_
    refine cw_seq ?_
    refine cw_region ?_
    refine lw_val rfl (run_assign (v := .int .i64 _) rfl) ?_
    refine lw_nil ?_
    refine cw_ret ?_
    refine res1 (v := .int .i64 _) rfl rfl ?_
    have e : x = l.length := by omega
    rw [e, List.take_length] at hq
    exact ⟨_, rfl, -1, ⟨fun h => by omega, fun h => by rw [hq] at h; cases h⟩, rfl, hs⟩
theorem conP_sl (hs : Mem g w L) {a : Option Addr} {n c : Nat} {l : List Pr} (hr : RdK g L 2 (.slice a n c) (l.map prL)) (hn : n = l.length) (hlen : l.length ≤ 1000000) : Calls Tryz.prog 233 #[.slice a n c, .func (.func 234) #[] #[]] w (Ret fun v w' => v = .bool (!l.all prOk) ∧ Mem g w' L) := by
  refine calls_cw Tryz.func233 rfl rfl ?_
  skip
  refine cw_seq ?_
  refine cw_region ?_
  refine lw_val rfl (run_assign (v := .bool _) rfl) ?_
  refine lw_nil ?_
  refine cw_seq ?_
  refine cw_region ?_
  refine lw_val rfl (run_move (v := .slice _ _ _) rfl) ?_
  refine lw_val rfl (run_move (v := .func _ _ _) rfl) ?_
  refine lw_call rfl en268 (idxP_sl hs hr hn hlen) ?_
  clear hs
  rintro _ w ⟨r, hr2, rfl, hs⟩
  refine lw_val rfl (run_geq rfl rfl) ?_
  refine lw_val rfl (run_assign (v := .bool _) rfl) ?_
  refine lw_nil ?_
  refine cw_ret ?_
  refine res1 (v := .bool _) rfl rfl ?_
  exact ⟨_, rfl, ret_b (by cases h : l.all prOk; exact decide_eq_true (hr2.2 h); exact decide_eq_false (fun h2 => by rw [h] at hr2; exact absurd (hr2.1 h2) (by decide))), hs⟩
/-! ### copies -/
theorem clonePr_sl (hs : Mem g w L) {a : Option Addr} {n c : Nat} {l : List Pr} (hr : RdK g L 2 (.slice a n c) (l.map prL)) (hn : n = l.length) (hlen : l.length ≤ 1000000) : Calls Tryz.prog 195 #[.slice a n c] w (Ret fun v w' => ∃ s : SA, v = .slice s.1 l.length s.2 ∧ Mem g w' (rowK 2 (.slice s.1 l.length s.2) (l.map prL) :: L)) := by
  subst hn
  rcases Nat.eq_zero_or_pos l.length with h0 | h0
  · obtain rfl : l = [] := List.eq_nil_of_length_eq_zero h0
    cases a with
    | none =>
      refine calls_cw Tryz.func195 rfl rfl ?_
      skip
      refine cw_seq ?_
      refine cw_region ?_
      refine lw_val rfl (run_assign (v := .slice _ _ _) rfl) ?_
      refine lw_nil ?_
      refine cw_seq ?_
      refine cw_seq ?_
      refine cw_region ?_
      refine lw_val rfl (run_move (v := .slice _ _ _) rfl) ?_
      refine lw_val rfl (run_eqsn Tryz.underlying33 rfl rfl) ?_
      refine lw_nil ?_
      refine cw_ift rfl (rfl) ?_
      refine cw_seq ?_
      refine cw_region ?_
      refine lw_val rfl (run_assign (v := .slice _ _ _) rfl) ?_
      refine lw_nil ?_
      refine cw_ret ?_
      refine res1 (v := .slice _ _ _) rfl rfl ?_
      exact ⟨_, rfl, (none, 0), rfl, hs.addE (rowK_nil 2 _)⟩
    | some a =>
      refine calls_cw Tryz.func195 rfl rfl ?_
      skip
      refine cw_seq ?_
      refine cw_region ?_
      refine lw_val rfl (run_assign (v := .slice _ _ _) rfl) ?_
      refine lw_nil ?_
      refine cw_seq ?_
      refine cw_seq ?_
      refine cw_region ?_
      refine lw_val rfl (run_move (v := .slice _ _ _) rfl) ?_
      refine lw_val rfl (run_eqsn Tryz.underlying33 rfl rfl) ?_
      refine lw_nil ?_
      refine cw_iff rfl (rfl) ?_
      refine cw_skip ?_
      refine cw_seq ?_
      refine cw_region ?_
      refine lw_buildNone (k := 2) hs rfl Tryz.underlying33 in141 ?_
      clear hs
      intro b5 w hs
      refine lw_val rfl (run_move (v := .slice _ _ _) rfl) ?_
      refine lw_appendRows0 rfl Tryz.underlying33 in141 rfl rfl ((hr.cons _ hs).src Tryz.underlying33 (by decide) (prL_rows [])) ?_
      refine lw_val rfl (run_assign (v := .slice _ _ _) rfl) ?_
      refine lw_nil ?_
      refine cw_ret ?_
      refine res1 (v := .slice _ _ _) rfl rfl ?_
      exact ⟨_, rfl, (some ⟨b5, 0, none⟩, 0), rfl, hs⟩
  · obtain ⟨b1, o1, rfl⟩ := hr.at hs (by rw [len_prL]; omega)
    refine calls_cw Tryz.func195 rfl rfl ?_
    skip
    refine cw_seq ?_
    refine cw_region ?_
    refine lw_val rfl (run_assign (v := .slice _ _ _) rfl) ?_
    refine lw_nil ?_
    refine cw_seq ?_
    refine cw_seq ?_
    refine cw_region ?_
    refine lw_val rfl (run_move (v := .slice _ _ _) rfl) ?_
    refine lw_val rfl (run_eqsn Tryz.underlying33 rfl rfl) ?_
    refine lw_nil ?_
    refine cw_iff rfl (rfl) ?_
    refine cw_skip ?_
    refine cw_seq ?_
    refine cw_region ?_
    refine lw_buildNone (k := 2) hs rfl Tryz.underlying33 in141 ?_
    clear hs
    intro b5 w hs
    refine lw_val rfl (run_move (v := .slice _ _ _) rfl) ?_
    refine lw_appendRows hs rfl 0 rfl (news := l.map prL) (by rw [len_prL]; omega) Tryz.underlying33 in141 rfl (prL_rows l) rfl rfl ((hr.cons _ hs).src Tryz.underlying33 (by decide) (prL_rows l)) (by simp; omega) (by simp; omega) ?_
    clear hs
    intro a7 c7 w hs
    simp only [List.set_cons_succ, List.set_cons_zero, List.length_nil, len_prL, Nat.zero_add, List.nil_append] at hs ⊢
    refine lw_val rfl (run_assign (v := .slice _ _ _) rfl) ?_
    refine lw_nil ?_
    refine cw_ret ?_
    refine res1 (v := .slice _ _ _) rfl rfl ?_
    exact ⟨_, rfl, (a7, c7), rfl, hs⟩
end Go.Proofs.YtkogkokmcmallaaGreatDoor
