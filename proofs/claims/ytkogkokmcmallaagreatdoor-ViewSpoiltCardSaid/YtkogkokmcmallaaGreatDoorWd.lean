/- How a view's manifests are compared, to the world. -/
import Derived.Test.YtkogkokmcmallaaGreatDoorWc
import Derived.Sort.Grow
namespace Go.Proofs.YtkogkokmcmallaaGreatDoor
set_option linter.all false
open Go.RowKit
attribute [local irreducible] errV
variable {g w : World} {L M : List HP} {ad : Nat → Addr} {p : Nat}

/-- Memory, and what was drawn. -/
def MD (g w : World) (L : List HP) : Prop := Mem g w L ∧ g.drawn ≤ w.drawn
theorem MD.tail {C : HP} (h : MD g w (C :: L)) : MD g w L := ⟨h.1.tail, h.2⟩
theorem MD.grown (h : MD g w []) : ∃ q os, w = Go.Sort.grow (g.drewN q) os := by
  obtain ⟨h, hd⟩ := h
  refine ⟨w.drawn - g.drawn, w.heap.extract g.heap.size, ?_⟩
  have hh : w.heap = g.heap ++ w.heap.extract g.heap.size := by
    refine Array.ext_getElem? fun i => ?_
    by_cases hi : i < g.heap.size
    · rw [Array.getElem?_append_left hi, h.old i hi]
    · rw [Array.getElem?_append_right (by omega), Array.getElem?_extract]
      have := h.size
      by_cases h2 : i < w.heap.size
      · rw [if_pos (by omega)]; congr 1; omega
      · rw [if_neg (by omega), Array.getElem?_eq_none (by omega)]
  obtain ⟨heap, tape, drawn, os, output⟩ := w
  obtain ⟨gheap, gtape, gdrawn, gos, goutput⟩ := g
  obtain ⟨h1, h2, h3, _, _, _⟩ := h
  simp only at h1 h2 h3 hh hd
  subst h1 h2 h3
  simp only [Go.Sort.grow, World.drewN]
  congr 1
  omega
section
variable {P : Program} {n : Nat} {ops : Array Oper} {rest : List Oper} {K : Env → World → Prop} {ρ : Env} {dst : Option Tmp} {ty : TypeId} {pos : String} {aft : Array Edge}
theorem lw_boxD (hs : MD g w L) (hd : okd n dst = true) {x : Operand} {t : TypeId} {v : Value} (hx : ev ρ x = v) (h : ∀ b w', MD g w' (cells b v.cells.toList t :: L) → lw P n ops rest K (updo ρ dst (.pointer (some ⟨b, 0, none⟩))) w') :
    lw P n ops (⟨dst, .box t x, ty, pos, aft, none⟩ :: rest) K ρ w := by
  refine lw_val hd (v := .pointer (some ⟨w.heap.size, 0, none⟩)) (w' := w.alloc (.cells v.cells t)) ?_ (h _ _ ⟨?_, hs.2⟩)
  · subst hx; rfl
  · simpa using hs.1.new v.cells.toList t
theorem lw_buildSliceD (hs : MD g w L) (hd : okd n dst = true) {t e : TypeId} {len : Nat} {ps : List (Nat × Operand)} {z : Value} (vs : List Value) (ht : P.underlying t = some (.slice e)) (hsz : (P.info? e).map (fun i => (i.zero, i.size)) = some (some z, 1))
    (hp : (ps.map fun p => (p.1, ev ρ p.2)) = (vs.zipIdx 0).map fun x => (x.2, x.1)) (h1 : ∀ u ∈ vs, u.cells = #[u]) (hlen : len = vs.length) (hpos : Nat.blt 0 len = true) (hsmall : Nat.ble len 16777216 = true)
    (h : ∀ b w', MD g w' (cells b vs e :: L) → lw P n ops rest K (updo ρ dst (.slice (some ⟨b, 0, none⟩) len len)) w') :
    lw P n ops (⟨dst, .buildSlice t len ps.toArray, ty, pos, aft, none⟩ :: rest) K ρ w := by
  obtain ⟨inf, hinf, hz⟩ := Option.map_eq_some_iff.1 hsz
  simp only [Prod.mk.injEq] at hz
  refine lw_val hd (v := .slice (some ⟨w.heap.size, 0, none⟩) len len) (w' := w.alloc (.cells vs.toArray e)) ?_ (h _ _ ⟨hs.1.new vs e, hs.2⟩)
  have hl : (ps.toArray.map fun (p : Nat × Operand) => (p.1, ev ρ p.2)).toList = ps.map fun p => (p.1, ev ρ p.2) := by simp
  have e1 : (fun (x : Nat × Operand) => match x with | (i, x) => (i, ev ρ x)) = fun p => (p.1, ev ρ p.2) := by funext ⟨_, _⟩; rfl
  have hr := run_buildSlice (P := P) w t e len (ps.toArray.map fun (p : Nat × Operand) => (p.1, ev ρ p.2)) vs.toArray inf z ht hinf hz.1 (by rw [hz.2]; have := (show len ≤ 16777216 by simpa using hsmall); omega) (by rw [hz.2]; have := (show 0 < len by simpa using hpos); omega)
    (by rw [hl, hp, hz.2]; exact Great.fill_flat _ _ h1 (by simp [hlen]))
  simp only [execOp, e1, Sem.run_bind, hr, Result.andThen_ok, Sem.run_pure]
end
theorem nanD_sl (hs : True) (a : Int) : Calls Tryz.prog 246 #[.int .i64 a] w (Ret fun v w' => v = .bool false ∧ w' = w) := by
  refine calls_cw Tryz.func246 rfl rfl ?_
  skip
  refine cw_seq ?_
  refine cw_region ?_
  first | refine lw_val rfl (run_assign (v := .bool _) rfl) ?_
  refine lw_nil ?_
  refine cw_seq ?_
  refine cw_region ?_
  first | refine lw_val rfl (run_move (v := .int .i64 _) rfl) ?_
  first | refine lw_val rfl (run_move (v := .int .i64 _) rfl) ?_
  refine lw_val rfl (run_nei rfl rfl) ?_
  first | refine lw_val rfl (run_assign (v := .bool _) rfl) ?_
  refine lw_nil ?_
  refine cw_ret ?_
  refine res1 (v := .bool _) rfl rfl ?_
  exact ⟨_, rfl, ret_b (by simp), rfl⟩
theorem cmpD_sl (hs : True) (a b : Int) : Calls Tryz.prog 218 #[.int .i64 a, .int .i64 b] w (Ret fun v w' => v = .int .i64 (cmpI a b) ∧ w' = w) := by
  refine calls_cw Tryz.func218 rfl rfl ?_
  skip
  refine cw_seq ?_
  refine cw_region ?_
  first | refine lw_val rfl (run_assign (v := .int .i64 _) rfl) ?_
  refine lw_nil ?_
  refine cw_seq ?_
  refine cw_region ?_
  first | refine lw_val rfl (run_move (v := .int .i64 _) rfl) ?_
  refine lw_call rfl en246 (nanD_sl hs a) ?_
  clear hs
  rintro _ w ⟨rfl, rfl⟩
  have hs := True.intro
  first | refine lw_val rfl (run_assign (v := .bool _) rfl) ?_
  refine lw_nil ?_
  refine cw_seq ?_
  refine cw_region ?_
  first | refine lw_val rfl (run_move (v := .int .i64 _) rfl) ?_
  refine lw_call rfl en246 (nanD_sl hs b) ?_
  clear hs
  rintro _ w ⟨rfl, rfl⟩
  have hs := True.intro
  first | refine lw_val rfl (run_assign (v := .bool _) rfl) ?_
  refine lw_nil ?_
  refine cw_seq ?_
  refine cw_seq ?_
  refine cw_region ?_
  first | refine lw_val rfl (run_move (v := .bool _) rfl) ?_
  refine lw_nil ?_
  refine cw_iff rfl (rfl) ?_
  refine cw_skip ?_
  refine cw_seq ?_
  refine cw_seq ?_
  refine cw_region ?_
  first | refine lw_val rfl (run_move (v := .bool _) rfl) ?_
  refine lw_nil ?_
  refine cw_iff rfl (rfl) ?_
  refine cw_skip ?_
  refine cw_seq ?_
  refine cw_seq ?_
  refine cw_region ?_
  first | refine lw_val rfl (run_move (v := .int .i64 _) rfl) ?_
  first | refine lw_val rfl (run_move (v := .int .i64 _) rfl) ?_
  refine lw_val rfl (run_lss rfl rfl) ?_
  refine lw_nil ?_
  refine cw_if rfl ?_ ?_
  · intro h16
    have g16 := of_decide_eq_true h16
    refine cw_seq ?_
    refine cw_region ?_
    first | refine lw_val rfl (run_assign (v := .int .i64 _) rfl) ?_
    refine lw_nil ?_
    refine cw_ret ?_
    refine res1 (v := .int .i64 _) rfl rfl ?_
    exact ⟨_, rfl, ret_i (by rw [cmpI, if_pos g16]), rfl⟩
  · intro h16
    have g16 := of_decide_eq_false h16
    refine cw_skip ?_
    refine cw_seq ?_
    refine cw_seq ?_
    refine cw_region ?_
    first | refine lw_val rfl (run_move (v := .int .i64 _) rfl) ?_
    first | refine lw_val rfl (run_move (v := .int .i64 _) rfl) ?_
    refine lw_val rfl (run_gtr rfl rfl) ?_
    refine lw_nil ?_
    refine cw_if rfl ?_ ?_
    · intro h19
      have g19 := of_decide_eq_true h19
      refine cw_seq ?_
      refine cw_region ?_
      first | refine lw_val rfl (run_assign (v := .int .i64 _) rfl) ?_
      refine lw_nil ?_
      refine cw_ret ?_
      refine res1 (v := .int .i64 _) rfl rfl ?_
      exact ⟨_, rfl, ret_i (by rw [cmpI, if_neg g16, if_pos g19]), rfl⟩
    · intro h19
      have g19 := of_decide_eq_false h19
      refine cw_skip ?_
      refine cw_seq ?_
      refine cw_region ?_
      first | refine lw_val rfl (run_assign (v := .int .i64 _) rfl) ?_
      refine lw_nil ?_
      refine cw_ret ?_
      refine res1 (v := .int .i64 _) rfl rfl ?_
      exact ⟨_, rfl, ret_i (by rw [cmpI, if_neg g16, if_neg g19]), rfl⟩
theorem orD_sl (hs : Mem g w L) {a : Option Addr} {n c : Nat} {u t : Int} (hr : Rd g L (.slice a n c) (intsL [u, t])) (hn : n = 2) : Calls Tryz.prog 217 #[.slice a n c] w (Ret fun v w' => v = .int .i64 (if u ≠ 0 then u else t) ∧ w' = w) := by
  subst hn
  obtain ⟨b1, o1, rfl, _⟩ := hr.cells' hs (by rw [intsL_len]; exact Nat.zero_lt_succ _)
  obtain ⟨w9, hw9⟩ : ∃ w9, w9 = w := ⟨_, rfl⟩
  rw [← hw9]
  rw [← hw9] at hs
  refine calls_cw Tryz.func217 rfl rfl ?_
  skip
  refine cw_seq ?_
  refine cw_region ?_
  first | refine lw_val rfl (run_assign (v := .int .i64 _) rfl) ?_
  refine lw_nil ?_
  refine cw_seq ?_
  refine cw_region ?_
  first | refine lw_val rfl (run_assign (v := .int .i64 _) rfl) ?_
  refine lw_nil ?_
  refine cw_seq ?_
  refine cw_seq ?_
  refine cw_region ?_
  first | refine lw_val rfl (run_move (v := .slice _ _ _) rfl) ?_
  refine lw_val rfl (run_lenS Tryz.underlying22 rfl) ?_
  first | refine lw_val rfl (run_move (v := .int .i64 _) rfl) ?_
  refine lw_nil ?_
  refine cw_block ?_
  refine cw_loop (X := Nat) [2, 5, 8, 9, 10, 11, 12, 13, 14, 15, 16] (fun k => [(8, .int .i64 (k : Nat))]) (fun k w => k ≤ 2 ∧ (1 ≤ k → u = 0) ∧ (2 ≤ k → t = 0) ∧ Mem g w L ∧ w = w9) (fun k => 2 - k) (0) ?_ ?_ ?_
  · exact ⟨rfl, trivial⟩
  · exact ⟨Nat.zero_le _, fun h => by omega, fun h => by omega, hs, rfl⟩
  clear hs
  rintro x ξ w hI
  obtain ⟨hk, h1, h2, hs, hw⟩ := hI
  refine cw_seq ?_
  refine cw_region ?_
  refine lw_val rfl (run_lss rfl rfl) ?_
  refine lw_nil ?_
  refine cw_seq ?_
  refine cw_if rfl ?_ ?_
  · intro h9
    have g9 := of_decide_eq_true h9
    obtain ⟨z, hz, hzz⟩ : ∃ z, [u, t][x]? = some z ∧ (x = 0 ∧ z = u ∨ x = 1 ∧ z = t) := by obtain rfl | rfl : x = 0 ∨ x = 1 := (by omega); exact ⟨u, rfl, .inl ⟨rfl, rfl⟩⟩; exact ⟨t, rfl, .inr ⟨rfl, rfl⟩⟩
    refine cw_skip ?_
    refine cw_seq ?_
    refine cw_block ?_
    refine cw_seq ?_
    refine cw_region ?_
    refine lw_val rfl (run_indexAddr Tryz.underlying22 sz3 rfl rfl rfl (by omega) rfl) ?_
    refine lw_val rfl (run_load Tryz.underlying3 rfl rfl (hr.cellAt hs (intsL_at hz))) ?_
    first | refine lw_val rfl (run_assign (v := .int .i64 _) rfl) ?_
    refine lw_nil ?_
    refine cw_seq ?_
    refine cw_region ?_
    first | refine lw_val rfl (run_move (v := .int .i64 _) rfl) ?_
    first | refine lw_val rfl (run_move (v := .int .i64 _) rfl) ?_
    refine lw_val rfl (run_nei rfl rfl) ?_
    refine lw_nil ?_
    refine cw_if rfl ?_ ?_
    · intro h14
      have g14 := ne_t h14
      refine cw_seq ?_
      refine cw_region ?_
      first | refine lw_val rfl (run_move (v := .int .i64 _) rfl) ?_
      first | refine lw_val rfl (run_assign (v := .int .i64 _) rfl) ?_
      refine lw_nil ?_
      refine cw_ret ?_
      refine res1 (v := .int .i64 _) rfl rfl ?_
      exact ⟨_, rfl, ret_i (by rcases hzz with ⟨rfl, rfl⟩ | ⟨rfl, rfl⟩; rw [if_pos g14]; rw [if_neg (by have := h1 (Nat.le_refl _); omega)]), hw⟩
    · intro h14
      have g14 := ne_f h14
      refine cw_skip ?_
      refine cw_region ?_
      refine lw_val rfl (run_add64 rfl rfl rfl (inI (by omega) (by omega))) ?_
      first | refine lw_val rfl (run_move (v := .int .i64 _) rfl) ?_
      refine lw_nil ?_
      exact ⟨x + 1, by omega, ⟨by omega, (fun h => by rcases hzz with ⟨rfl, rfl⟩ | ⟨rfl, rfl⟩; omega; exact h1 (by omega)), (fun h => by rcases hzz with ⟨rfl, rfl⟩ | ⟨rfl, rfl⟩; omega; omega), hs, hw⟩, ⟨rfl, trivial⟩, by repeat (first | exact Out.mix _ _ _ | refine Out.updo rfl ?_ | refine Out.upd rfl ?_ | refine Out.mixIn rfl ?_)⟩
  · intro h9
    have g9 := of_decide_eq_false h9
    refine cw_exit rfl ?_
    refine cw_seq ?_
    refine cw_region ?_
    first | refine lw_val rfl (run_move (v := .int .i64 _) rfl) ?_
    first | refine lw_val rfl (run_assign (v := .int .i64 _) rfl) ?_
    refine lw_nil ?_
    refine cw_ret ?_
    refine res1 (v := .int .i64 _) rfl rfl ?_
    exact ⟨_, rfl, ret_i (by rw [if_neg (by have := h1 (by omega); omega)]; exact (h2 (by omega)).symm), hw⟩
theorem cmpMD_sl {x y : Mf} {e o e2 o2 : SA} (hx : 0 ≤ x.id ∧ x.id ≤ 2147483647) (hy : 0 ≤ y.id ∧ y.id ≤ 2147483647) : Calls Tryz.prog 216 #[.agg (mfL x e o).toArray, .agg (mfL y e2 o2).toArray] g (Ret fun v w' => v = .int .i64 (cmpM x y) ∧ MD g w' []) := by
  have hs : MD g g [] := ⟨Mem.start g, Nat.le_refl _⟩
  refine calls_cw Tryz.func216 rfl rfl ?_
  skip
  refine cw_seq ?_
  refine cw_region ?_
  refine lw_boxD (v := .agg _) hs rfl rfl ?_
  clear hs
  intro b2 w hs
  refine lw_boxD (v := .agg _) hs rfl rfl ?_
  clear hs
  intro b3 w hs
  first | refine lw_val rfl (run_assign (v := .int .i64 _) rfl) ?_
  refine lw_nil ?_
  refine cw_seq ?_
  refine cw_draw (fun w => MD g w (cells b3 (mfL y e2 o2) 36 :: cells b2 (mfL x e o) 36 :: [])) mixes ?_
  have hK : (fun w => MD g w (cells b3 (mfL y e2 o2) 36 :: cells b2 (mfL x e o) 36 :: [])) w.drew := ⟨hs.1.drew, Nat.le_succ_of_le hs.2⟩
  generalize World.drew w = w1 at hK ⊢
  first | refine aw_take 0 rfl (by kernel_rfl) (by kernel_rfl) (by kernel_rfl) rfl (fun w hs => run_fieldAddr (o' := 1) Tryz.underlying36 rfl sz2 rfl rfl rfl) hK ?_ | refine aw_take 0 rfl (by kernel_rfl) (by kernel_rfl) (by kernel_rfl) rfl (fun w hs => run_fieldAddr Tryz.underlying36 rfl sz2 rfl rfl rfl) hK ?_
  refine aw_take 1 rfl (by kernel_rfl) (by kernel_rfl) (by kernel_rfl) rfl (fun w hs => run_load Tryz.underlying2 rfl rfl (hs.1.cellAt 1 rfl rfl)) hK ?_
  first | refine aw_take 2 rfl (by kernel_rfl) (by kernel_rfl) (by kernel_rfl) rfl (fun w hs => run_fieldAddr (o' := 1) Tryz.underlying36 rfl sz2 rfl rfl rfl) hK ?_ | refine aw_take 2 rfl (by kernel_rfl) (by kernel_rfl) (by kernel_rfl) rfl (fun w hs => run_fieldAddr Tryz.underlying36 rfl sz2 rfl rfl rfl) hK ?_
  refine aw_take 3 rfl (by kernel_rfl) (by kernel_rfl) (by kernel_rfl) rfl (fun w hs => run_load Tryz.underlying2 rfl rfl (hs.1.cellAt 0 rfl rfl)) hK ?_
  first | refine aw_take 5 rfl (by kernel_rfl) (by kernel_rfl) (by kernel_rfl) rfl (fun w hs => run_fieldAddr (o' := 0) Tryz.underlying36 rfl sz3 rfl rfl rfl) hK ?_ | refine aw_take 5 rfl (by kernel_rfl) (by kernel_rfl) (by kernel_rfl) rfl (fun w hs => run_fieldAddr Tryz.underlying36 rfl sz3 rfl rfl rfl) hK ?_
  refine aw_take 6 rfl (by kernel_rfl) (by kernel_rfl) (by kernel_rfl) rfl (fun w hs => run_load Tryz.underlying3 rfl rfl (hs.1.cellAt 1 rfl rfl)) hK ?_
  first | refine aw_take 7 rfl (by kernel_rfl) (by kernel_rfl) (by kernel_rfl) rfl (fun w hs => run_fieldAddr (o' := 0) Tryz.underlying36 rfl sz3 rfl rfl rfl) hK ?_ | refine aw_take 7 rfl (by kernel_rfl) (by kernel_rfl) (by kernel_rfl) rfl (fun w hs => run_fieldAddr Tryz.underlying36 rfl sz3 rfl rfl rfl) hK ?_
  refine aw_take 8 rfl (by kernel_rfl) (by kernel_rfl) (by kernel_rfl) rfl (fun w hs => run_load Tryz.underlying3 rfl rfl (hs.1.cellAt 0 rfl rfl)) hK ?_
  refine aw_take 9 rfl (by kernel_rfl) (by kernel_rfl) (by kernel_rfl) rfl (fun w hs => run_sub64 rfl rfl (c := x.id - y.id) rfl (inI (by omega) (by omega))) hK ?_
  refine aw_ready [4] (by kernel_rfl) (by simp) ?_
  refine ⟨⟨_, rfl, ?_⟩, trivial⟩
  refine lw_call rfl en218 (cmpD_sl True.intro x.base y.base) ?_
  clear hs
  rintro _ w ⟨rfl, rfl⟩
  have hs := hK
  clear hK
  have hK := hs
  refine lw_nil ⟨hK, ?_⟩
  refine aw_ready [10] (by kernel_rfl) (by simp) ?_
  refine ⟨⟨_, rfl, ?_⟩, trivial⟩
  refine lw_buildSliceD hs rfl (intsL [cmpI x.base y.base, x.id - y.id]) Tryz.underlying22 zs3 rfl (cells_one (intsL_one _)) rfl rfl rfl ?_
  clear hs
  intro b15 w hs
  clear hK
  have hK := hs.tail
  refine lw_nil ⟨hK, ?_⟩
  refine aw_ready [11] (by kernel_rfl) (by simp) ?_
  refine ⟨⟨_, rfl, ?_⟩, trivial⟩
  refine lw_call rfl en217 (orD_sl hs.1 (u := cmpI x.base y.base) (t := x.id - y.id) (Rd.cells (n := 2) 0 rfl rfl) rfl) ?_
  rintro _ w ⟨rfl, rfl⟩
  clear hK
  have hK := hs.tail
  refine lw_nil ⟨hK, ?_⟩
  first | refine aw_take 12 rfl (by kernel_rfl) (by kernel_rfl) (by kernel_rfl) rfl (fun w hs => run_assign (v := .int .i64 _) rfl) hK ?_
  refine aw_done (by kernel_rfl) ?_
  skip
  refine cw_ret ?_
  refine res1 (v := .int .i64 _) rfl rfl ?_
  exact ⟨_, rfl, rfl, hs.1.nil, hs.2⟩
theorem cmpMR {x y : Mf} {e o e2 o2 : SA} (hx : 0 ≤ x.id ∧ x.id ≤ 2147483647) (hy : 0 ≤ y.id ∧ y.id ≤ 2147483647) : Calls Tryz.prog 216 #[.agg (mfL x e o).toArray, .agg (mfL y e2 o2).toArray] w (fun e w' => e = .returned (.int .i64 (cmpM x y)) ∧ ∃ q os, w' = Go.Sort.grow (w.drewN q) os) :=
  (cmpMD_sl hx hy).mono fun _ _ ⟨v, h1, h2, h3⟩ => ⟨by rw [h1, h2], h3.grown⟩
end Go.Proofs.YtkogkokmcmallaaGreatDoor
