/- The client, over chunks: New, Asked, again. -/
import Derived.Test.YtkogkokmcmallaaGreatDoorT3
namespace Go.Proofs.YtkogkokmcmallaaGreatDoor
set_option linter.all false
open Go.RowKit
attribute [local irreducible] errV
variable {g w : World} {L M : List HP} {ad : Nat → Addr} {p q : Nat} {st : St}

abbrev clientC (q p : Nat) (t a : Int) : HP := cells q [.pointer (some ⟨p, 0, none⟩), .int .i64 t, .int .i64 a] 137
theorem clnew_sl (hE : ErrG ad g) (hs : Mem g w L) {t : Int} (h : 1 ≤ t ∧ t ≤ 8) : Calls Tryz.prog 12 #[.pointer (some ⟨p, 0, none⟩), .int .i64 t] w (Ret fun v w' => ∃ q, v = .tuple #[.pointer (some ⟨q, 0, none⟩), .nilIface] ∧ Mem g w' (clientC q p t 0 :: L)) := by
  refine calls_cw Tryz.func12 rfl rfl ?_
  skip
  refine cw_seq ?_
  refine cw_region ?_
  refine lw_val rfl (run_assign (v := .pointer none) rfl) ?_
  refine lw_val rfl (run_assign (v := .nilIface) rfl) ?_
  refine lw_nil ?_
  refine cw_seq ?_
  refine cw_seq ?_
  refine cw_region ?_
  refine lw_val rfl (run_move (v := .int .i64 _) rfl) ?_
  refine lw_val rfl (run_lss rfl rfl) ?_
  refine lw_val rfl (run_move (v := .bool _) rfl) ?_
  refine lw_on rfl rfl (decide_eq_false (by omega)) ?_
  refine lw_val rfl (run_move (v := .int .i64 _) rfl) ?_
  refine lw_on rfl rfl (decide_eq_false (by omega)) ?_
  refine lw_val rfl (run_gtr rfl rfl) ?_
  refine lw_val rfl (run_pickF (v := .bool _) rfl (decide_eq_false (by omega)) rfl) ?_
  refine lw_nil ?_
  refine cw_iff rfl (decide_eq_false (by omega)) ?_
  refine cw_skip ?_
  refine cw_seq ?_
  refine cw_region ?_
  refine lw_val rfl (run_move (v := .pointer (some _)) rfl) ?_
  refine lw_val rfl (run_move (v := .int .i64 _) rfl) ?_
  refine lw_val rfl (run_build (cs := [.pointer (some ⟨p, 0, none⟩), .int .i64 t, .int .i64 0]) Tryz.underlying137 ze137 pl137 rfl) ?_
  refine lw_box (v := .agg _) hs rfl rfl ?_
  clear hs
  intro b16 w hs
  refine lw_val rfl (run_assign (v := .pointer (some _)) rfl) ?_
  refine lw_val rfl (run_assign (v := .nilIface) rfl) ?_
  refine lw_nil ?_
  refine cw_ret ?_
  refine res2 (v := .pointer (some _)) (v2 := .nilIface) rfl rfl rfl ?_
  exact ⟨_, rfl, b16, rfl, hs⟩
theorem asked_sl {t a : Int} (hs : Mem g w (clientC q p t a :: L)) : Calls Tryz.prog 85 #[.pointer (some ⟨q, 0, none⟩)] w (Ret fun v w' => v = .int .i64 a ∧ Mem g w' (clientC q p t a :: L)) := by
  refine calls_cw Tryz.func85 rfl rfl ?_
  skip
  refine cw_seq ?_
  refine cw_region ?_
  refine lw_val rfl (run_assign (v := .int .i64 _) rfl) ?_
  refine lw_nil ?_
  refine cw_seq ?_
  refine cw_region ?_
  refine lw_val rfl (run_move (v := .pointer (some _)) rfl) ?_
  refine lw_val rfl (run_nilCheckP rfl) ?_
  refine lw_val rfl (run_fieldAddr (o' := 2) Tryz.underlying137 rfl sz3 rfl rfl rfl) ?_
  refine lw_val rfl (run_load Tryz.underlying3 rfl rfl (hs.cellAt 0 rfl rfl)) ?_
  refine lw_val rfl (run_assign (v := .int .i64 _) rfl) ?_
  refine lw_nil ?_
  refine cw_ret ?_
  refine res1 (v := .int .i64 _) rfl rfl ?_
  exact ⟨_, rfl, rfl, hs⟩

/-- Asking till there is an answer: whether one was lost; the code; how often it asked; what is behind it. -/
def againR {σ : Type} (step : σ → Nat × σ) : Nat → σ → Bool × Nat × Nat × σ
  | 0, s => (false, 111, 0, s)
  | n + 1, s => if (step s).1 = 111 then (true, (againR step n (step s).2).2.1, (againR step n (step s).2).2.2.1 + 1, (againR step n (step s).2).2.2.2) else (false, (step s).1, 1, (step s).2)
theorem again_sl {σ : Type} (X : σ → List HP) (step : σ → Nat × σ) (I : Nat → σ → Prop) (hE : ErrG ad g) {f : FuncId} {cap : Array Value} {s : σ} {t : Nat} {a : Int} (ha : 0 ≤ a ∧ a < 1000000000000) (ht : t ≤ 8) (hs : Mem g w (clientC q p t a :: X s)) (hI : I t s)
    (hstep : ∀ n s, I (n + 1) s → I n (step s).2) (hcode : ∀ n s, I (n + 1) s → (step s).1 = 0 ∨ (step s).1 ∈ coreCodes) (hf : ∀ args w, (callFunc f args).run Tryz.prog w = .ok (.enter f args) w)
    (hdo : ∀ n s a w1, I (n + 1) s → Mem g w1 (clientC q p t a :: X s) → Calls Tryz.prog f cap w1 (Ret fun v w2 => v = errV ad (step s).1 ∧ Mem g w2 (clientC q p t a :: X (step s).2))) :
    Calls Tryz.prog 167 #[.pointer (some ⟨q, 0, none⟩), .func (.func f) #[] cap] w
      (Ret fun v w' => v = .tuple #[.bool (againR step t s).1, errV ad (againR step t s).2.1] ∧ Mem g w' (clientC q p t (a + ((againR step t s).2.2.1 : Nat)) :: X (againR step t s).2.2.2)) := by
  refine calls_cw Tryz.func167 rfl rfl ?_
  skip
  refine cw_seq ?_
  refine cw_region ?_
  refine lw_val rfl (run_assign (v := .bool _) rfl) ?_
  refine lw_val rfl (run_assign (v := .nilIface) rfl) ?_
  refine lw_nil ?_
  refine cw_scope ?_
  refine cw_seq ?_
  refine cw_region ?_
  refine lw_val rfl (run_assign (v := .bool _) rfl) ?_
  refine lw_nil ?_
  refine cw_seq ?_
  refine cw_region ?_
  refine lw_val rfl (run_load Tryz.underlying30 rfl rfl (hE.cellW hs 111 (by decide) rfl)) ?_
  refine lw_val rfl (run_assign (v := errV ad _) rfl) ?_
  refine lw_nil ?_
  refine cw_seq ?_
  refine cw_label ?_
  refine cw_seq ?_
  refine cw_seq ?_
  refine cw_region ?_
  refine lw_val rfl (run_move (v := .pointer (some _)) rfl) ?_
  refine lw_val rfl (run_nilCheckP rfl) ?_
  refine lw_val rfl (run_fieldAddr (o' := 1) Tryz.underlying137 rfl sz3 rfl rfl rfl) ?_
  refine lw_val rfl (run_load Tryz.underlying3 rfl rfl (hs.cellAt 0 rfl rfl)) ?_
  refine lw_val rfl (run_move (v := .int .i64 _) rfl) ?_
  refine lw_nil ?_
  refine cw_block ?_
  refine cw_loop (X := Nat × σ) [6, 7, 13, 14, 15, 16, 17, 18, 19, 20, 21, 22, 23, 24, 25, 26, 27, 28] (fun x => [(6, .bool (decide (0 < x.1))), (7, errV ad 111), (13, .int .i64 (x.1 : Nat))]) (fun x w => x.1 ≤ t ∧ I (t - x.1) x.2 ∧ againR step t s = (decide (0 < x.1) || (againR step (t - x.1) x.2).1, (againR step (t - x.1) x.2).2.1, x.1 + (againR step (t - x.1) x.2).2.2.1, (againR step (t - x.1) x.2).2.2.2) ∧ Mem g w (clientC q p t (a + (x.1 : Nat)) :: X x.2)) (fun x => t - x.1) ((0, s)) ?_ ?_ ?_
  · exact ⟨rfl, rfl, rfl, trivial⟩
  · exact ⟨Nat.zero_le _, hI, by simp, by simpa using hs⟩
  clear hs
  rintro x ξ w hI
  obtain ⟨k, s1⟩ := x
  obtain ⟨hk, hI1, hq, hs⟩ := hI
  simp only at hk hI1 hq hs
  refine cw_seq ?_
  refine cw_region ?_
  refine lw_val rfl (run_lss rfl rfl) ?_
  refine lw_nil ?_
  refine cw_seq ?_
  refine cw_if rfl ?_ ?_
  · intro h14
    have g14 := of_decide_eq_true h14
    obtain ⟨m, hm⟩ : ∃ m, t - k = m + 1 := ⟨t - k - 1, by omega⟩
    rw [hm] at hI1 hq
    refine cw_skip ?_
    refine cw_seq ?_
    refine cw_block ?_
    refine cw_seq ?_
    refine cw_region ?_
    refine lw_val rfl (run_move (v := .pointer (some _)) rfl) ?_
    refine lw_val rfl (run_nilCheckP rfl) ?_
    refine lw_val rfl (run_fieldAddr (o' := 2) Tryz.underlying137 rfl sz3 rfl rfl rfl) ?_
    refine lw_val rfl (run_load Tryz.underlying3 rfl rfl (hs.cellAt 0 rfl rfl)) ?_
    refine lw_val rfl (run_add64 rfl rfl rfl (inI (by omega) (by omega))) ?_
    refine lw_val rfl (run_nilCheckP rfl) ?_
    refine lw_val rfl (run_fieldAddr (o' := 2) Tryz.underlying137 rfl sz3 rfl rfl rfl) ?_
    refine lw_store (v := .int .i64 _) hs 0 rfl sz3 rfl rfl rfl rfl ?_
    clear hs
    intro w hs
    try simp only [List.set_cons_succ, List.set_cons_zero] at hs
    refine lw_nil ?_
    refine cw_seq ?_
    refine cw_seq ?_
    refine cw_region ?_
    refine lw_val rfl (run_move (v := .func _ _ _) rfl) ?_
    refine lw_callv0 rfl hf rfl (hdo m s1 _ w hI1 hs) ?_
    clear hs
    rintro _ w ⟨rfl, hs⟩
    refine lw_val rfl (run_assign (v := errV ad _) rfl) ?_
    refine lw_nil ?_
    refine cw_seq ?_
    refine cw_region ?_
    refine lw_val rfl (run_move (v := errV ad _) rfl) ?_
    refine lw_nil ?_
    refine cw_block ?_
    refine cw_seq ?_
    refine cw_region ?_
    refine lw_val rfl (run_load Tryz.underlying30 rfl rfl (hE.cellW hs 111 (by decide) rfl)) ?_
    refine lw_val rfl (run_eqerr (hE.atW hs) (hcode m s1 hI1) (by decide) (c := (step s1).1) (d := 111) rfl rfl) ?_
    refine lw_val rfl (run_assign (v := .bool _) rfl) ?_
    refine lw_nil ?_
    refine cw_if rfl ?_ ?_
    · intro h27
      have g27 := of_decide_eq_true h27
      refine cw_seq ?_
      refine cw_region ?_
      refine lw_val rfl (run_assign (v := .bool _) rfl) ?_
      refine lw_nil ?_
      refine cw_exit rfl ?_
      refine cw_region ?_
      refine lw_val rfl (run_add64 rfl rfl rfl (inI (by omega) (by omega))) ?_
      refine lw_val rfl (run_move (v := .int .i64 _) rfl) ?_
      refine lw_nil ?_
      exact ⟨(k + 1, (step s1).2), by simp; omega, ⟨by simp; omega, by rw [show t - (k + 1, (step s1).2).1 = m by simp; omega]; exact hstep m s1 hI1, by rw [hq, show t - (k + 1, (step s1).2).1 = m by simp; omega]; simp only [againR, g27, if_true]; simp; omega, by simpa [Int.add_assoc] using hs⟩, ⟨show Value.bool true = Value.bool (decide (0 < k + 1)) from ret_b (by simp), show errV ad (step s1).1 = errV ad 111 from by rw [g27], rfl, trivial⟩, by repeat (first | exact Out.mix _ _ _ | refine Out.updo rfl ?_ | refine Out.upd rfl ?_ | refine Out.mixIn rfl ?_)⟩
    · intro h27
      have g27 := of_decide_eq_false h27
      refine cw_skip ?_
      refine cw_exit rfl ?_
      refine cw_seq ?_
      refine cw_region ?_
      refine lw_val rfl (run_move (v := .bool _) rfl) ?_
      refine lw_val rfl (run_move (v := errV ad _) rfl) ?_
      refine lw_val rfl (run_assign (v := .bool _) rfl) ?_
      refine lw_val rfl (run_assign (v := errV ad _) rfl) ?_
      refine lw_nil ?_
      refine cw_ret ?_
      refine res2 (v := .bool _) (v2 := errV ad _) rfl rfl rfl ?_
      rw [hq]
      simp only [againR, g27, if_false]
      exact ⟨_, rfl, by simp, by simpa [Int.add_assoc] using hs⟩
  · intro h14
    have g14 := of_decide_eq_false h14
    refine cw_exit rfl ?_
    refine cw_seq ?_
    refine cw_region ?_
    refine lw_val rfl (run_move (v := .bool _) rfl) ?_
    refine lw_val rfl (run_move (v := errV ad _) rfl) ?_
    refine lw_val rfl (run_assign (v := .bool _) rfl) ?_
    refine lw_val rfl (run_assign (v := errV ad _) rfl) ?_
    refine lw_nil ?_
    refine cw_ret ?_
    refine res2 (v := .bool _) (v2 := errV ad _) rfl rfl rfl ?_
    have e : t - k = 0 := by omega
    rw [e] at hq
    rw [hq]
    simp only [againR]
    exact ⟨_, rfl, by simp, by simpa using hs⟩
end Go.Proofs.YtkogkokmcmallaaGreatDoor
