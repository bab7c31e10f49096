/- Chapter 16: the examples; entries that are let be. -/
import Derived.Test.YtkogkokmcmallaaGreatDoorIn
namespace Go.Proofs.YtkogkokmcmallaaGreatDoor
set_option linter.all false
open Go.RowKit
attribute [local irreducible] errV
variable {g w : World} {L M : List HP} {ad : Nat → Addr} {p : Nat} {V : Vw}

theorem view_all {c : Nat} (h : c ∈ viewCodes) : c ∈ allCodes := by
  simp only [viewCodes, allCodes, List.mem_cons, List.not_mem_nil, or_false] at *; omega
theorem isV_sl (hE : ErrA ad g) (hs : Mem g w L) {d : Nat} (hd : d = 0 ∨ d ∈ allCodes) (c : Int) : Calls Tryz.prog 23 #[errV ad d, .int .i64 c] w (Ret fun v w' => v = .bool (decide ((d : Int) = c)) ∧ Mem g w' L) := by
  have := hs.calls (is_any (hE.atW hs) hs.size hd c)
  rw [int_beq] at this
  exact this
theorem Errs.view {ad : Nat → Addr} {B : Nat} {w : World} (h : Errs allCodes ad B w) : Errs viewCodes ad B w :=
  ⟨fun c hc => h.pos c (view_all hc), fun c hc => h.cell c (view_all hc), fun c hc => h.block c (view_all hc), fun c hc d hd => h.inj c (view_all hc) d (view_all hd), fun c hc => h.lt c (view_all hc)⟩
/-- An entry whose manifest stays at hand; the answer is a bare error. -/
theorem applyB_sl (hE : ErrV ad g) {x : Mf} {s1 s2 : SA} (hs : Mem g w L) {i : Nat} (hv : L[i]? = some (ViewC p V)) (k : Int) (hm : MfR g (L.eraseIdx i) x s1 s2) (hob : x.obs.length ≤ 1000000) {c : Nat} {V' : Vw} (hap : V.apply k x = ((c, none), V')) : Calls Tryz.prog 29 #[.pointer (some ⟨p, 0, none⟩), .agg (.int .i64 k :: mfL x s1 s2).toArray] w (Ret fun v w' => v = errV ad c ∧ Mem g w' (ViewC p V' :: L.eraseIdx i)) := by
  refine (apply_sl hE (hs.pick i hv) k hm hob).mono ?_
  rintro e w' ⟨v, rfl, eb, rfl, h⟩
  rw [hap] at h ⊢
  exact ⟨_, rfl, rfl, h.tail⟩
theorem first16_ap : Vw.apply [] 1 (oneM 0 0) = ((0, none), [(0, ⟨1, oneM 0 0⟩)]) := by decide +kernel
theorem first16_ap2 : Vw.apply [(0, ⟨1, oneM 0 0⟩)] 1 (oneM 0 0) = ((113, none), [(0, ⟨1, oneM 0 0⟩)]) := by decide +kernel
set_option maxRecDepth 10000 in
theorem first16_sl (hA : ErrA ad g) (hs : Mem g w L) : Calls Tryz.prog 27 #[] w (Ret fun v w' => v = .bool true ∧ Mem g w' L) := by
  have hE : ErrV ad g := hA.view
  refine calls_cw Tryz.func27 rfl rfl ?_
  skip
  refine cw_seq ?_
  refine cw_region ?_
  first | refine lw_val rfl (run_assign (v := .bool _) rfl) ?_
  refine lw_nil ?_
  refine cw_seq ?_
  refine cw_region ?_
  refine lw_call rfl en28 (newv_sl hs) ?_
  clear hs
  rintro _ w ⟨p, rfl, hs⟩
  first | refine lw_val rfl (run_assign (v := .pointer (some _)) rfl) ?_ | refine lw_val rfl (run_assign (v := .pointer none) rfl) ?_ | refine lw_val rfl (run_assign (v := .pointer _) rfl) ?_
  refine lw_nil ?_
  refine cw_seq ?_
  refine cw_region ?_
  refine lw_call rfl en30 (one16_sl hs 0 0 (by decide) (by decide) (oneS 0 (by decide))) ?_
  clear hs
  rintro _ w ⟨s1, s2, rfl, hs⟩
  refine lw_val rfl (run_buildKM (k := 1) (m := oneM 0 0) (e := s1) (o := s2) Tryz.underlying63 ze63 pl63 rfl rfl) ?_
  refine lw_alloc hs rfl ze63 ?_
  clear hs
  intro b2 w hs
  try simp only [List.set_cons_succ, List.set_cons_zero] at hs
  first | refine lw_storeRow hs 0 rfl rfl rfl sz63 rfl rfl ?_ | refine lw_storeRow hs 1 rfl rfl rfl sz63 rfl rfl ?_ | refine lw_storeRow hs 2 rfl rfl rfl sz63 rfl rfl ?_ | refine lw_storeRow hs 3 rfl rfl rfl sz63 rfl rfl ?_ | refine lw_storeRow hs 4 rfl rfl rfl sz63 rfl rfl ?_ | refine lw_storeRow hs 5 rfl rfl rfl sz63 rfl rfl ?_ | refine lw_storeRow hs 6 rfl rfl rfl sz63 rfl rfl ?_ | refine lw_storeRow hs 7 rfl rfl rfl sz63 rfl rfl ?_ | refine lw_storeRow hs 8 rfl rfl rfl sz63 rfl rfl ?_ | refine lw_storeRow hs 9 rfl rfl rfl sz63 rfl rfl ?_ | refine lw_storeRow hs 10 rfl rfl rfl sz63 rfl rfl ?_ | refine lw_storeRow hs 11 rfl rfl rfl sz63 rfl rfl ?_ | refine lw_storeRow hs 12 rfl rfl rfl sz63 rfl rfl ?_ | refine lw_storeRow hs 13 rfl rfl rfl sz63 rfl rfl ?_
  clear hs
  intro w hs
  try simp only [List.set_cons_succ, List.set_cons_zero] at hs
  refine lw_nil ?_
  refine cw_seq ?_
  refine cw_region ?_
  first | refine lw_val rfl (run_move (v := .pointer (some _)) rfl) ?_ | refine lw_val rfl (run_move (v := .pointer none) rfl) ?_ | refine lw_val rfl (run_move (v := .pointer _) rfl) ?_
  refine lw_val rfl (run_nepn Tryz.underlying24 rfl rfl) ?_
  first | refine lw_val rfl (run_move (v := .bool _) rfl) ?_
  refine lw_on rfl rfl (rfl) ?_
  first | refine lw_val rfl (run_move (v := .pointer (some _)) rfl) ?_ | refine lw_val rfl (run_move (v := .pointer none) rfl) ?_ | refine lw_val rfl (run_move (v := .pointer _) rfl) ?_
  refine lw_on rfl rfl (rfl) ?_
  first | refine lw_val rfl (run_loadRow hs 0 rfl Tryz.underlying63 sz63 rfl) ?_ | refine lw_val rfl (run_loadRow hs 1 rfl Tryz.underlying63 sz63 rfl) ?_ | refine lw_val rfl (run_loadRow hs 2 rfl Tryz.underlying63 sz63 rfl) ?_ | refine lw_val rfl (run_loadRow hs 3 rfl Tryz.underlying63 sz63 rfl) ?_ | refine lw_val rfl (run_loadRow hs 4 rfl Tryz.underlying63 sz63 rfl) ?_ | refine lw_val rfl (run_loadRow hs 5 rfl Tryz.underlying63 sz63 rfl) ?_ | refine lw_val rfl (run_loadRow hs 6 rfl Tryz.underlying63 sz63 rfl) ?_ | refine lw_val rfl (run_loadRow hs 7 rfl Tryz.underlying63 sz63 rfl) ?_ | refine lw_val rfl (run_loadRow hs 8 rfl Tryz.underlying63 sz63 rfl) ?_ | refine lw_val rfl (run_loadRow hs 9 rfl Tryz.underlying63 sz63 rfl) ?_ | refine lw_val rfl (run_loadRow hs 10 rfl Tryz.underlying63 sz63 rfl) ?_ | refine lw_val rfl (run_loadRow hs 11 rfl Tryz.underlying63 sz63 rfl) ?_ | refine lw_val rfl (run_loadRow hs 12 rfl Tryz.underlying63 sz63 rfl) ?_ | refine lw_val rfl (run_loadRow hs 13 rfl Tryz.underlying63 sz63 rfl) ?_
  refine lw_on rfl rfl (rfl) ?_
  refine lw_call rfl en29 (applyB_sl hE hs (i := 3) rfl 1 (x := oneM 0 0) (s1 := s1) (s2 := s2) (MfR.own 1 2 rfl rfl) (by decide) first16_ap) ?_
  clear hs
  rintro _ w ⟨rfl, hs⟩
  refine lw_on rfl rfl (rfl) ?_
  first | refine lw_val rfl (run_eqerrn (ad := ad) rfl) ?_ | refine lw_val rfl (run_eqnn rfl) ?_ | refine lw_val rfl (run_eqE (ad := ad) rfl) ?_
  first | refine lw_val rfl (run_pickT (v := .bool _) rfl (rfl) rfl) ?_
  first | refine lw_val rfl (run_move (v := .bool _) rfl) ?_
  refine lw_on rfl rfl (rfl) ?_
  first | refine lw_val rfl (run_move (v := .pointer (some _)) rfl) ?_ | refine lw_val rfl (run_move (v := .pointer none) rfl) ?_ | refine lw_val rfl (run_move (v := .pointer _) rfl) ?_
  refine lw_on rfl rfl (rfl) ?_
  first | refine lw_val rfl (run_loadRow hs 0 rfl Tryz.underlying63 sz63 rfl) ?_ | refine lw_val rfl (run_loadRow hs 1 rfl Tryz.underlying63 sz63 rfl) ?_ | refine lw_val rfl (run_loadRow hs 2 rfl Tryz.underlying63 sz63 rfl) ?_ | refine lw_val rfl (run_loadRow hs 3 rfl Tryz.underlying63 sz63 rfl) ?_ | refine lw_val rfl (run_loadRow hs 4 rfl Tryz.underlying63 sz63 rfl) ?_ | refine lw_val rfl (run_loadRow hs 5 rfl Tryz.underlying63 sz63 rfl) ?_ | refine lw_val rfl (run_loadRow hs 6 rfl Tryz.underlying63 sz63 rfl) ?_ | refine lw_val rfl (run_loadRow hs 7 rfl Tryz.underlying63 sz63 rfl) ?_ | refine lw_val rfl (run_loadRow hs 8 rfl Tryz.underlying63 sz63 rfl) ?_ | refine lw_val rfl (run_loadRow hs 9 rfl Tryz.underlying63 sz63 rfl) ?_ | refine lw_val rfl (run_loadRow hs 10 rfl Tryz.underlying63 sz63 rfl) ?_ | refine lw_val rfl (run_loadRow hs 11 rfl Tryz.underlying63 sz63 rfl) ?_ | refine lw_val rfl (run_loadRow hs 12 rfl Tryz.underlying63 sz63 rfl) ?_ | refine lw_val rfl (run_loadRow hs 13 rfl Tryz.underlying63 sz63 rfl) ?_
  refine lw_on rfl rfl (rfl) ?_
  refine lw_call rfl en29 (applyB_sl hE hs (i := 0) rfl 1 (x := oneM 0 0) (s1 := s1) (s2 := s2) (MfR.own 1 2 rfl rfl) (by decide) first16_ap2) ?_
  clear hs
  rintro _ w ⟨rfl, hs⟩
  refine lw_on rfl rfl (rfl) ?_
  refine lw_call rfl en23 (isV_sl hA hs (d := 113) (.inr (by decide)) 113) ?_
  clear hs
  rintro _ w ⟨rfl, hs⟩
  first | refine lw_val rfl (run_pickT (v := .bool _) rfl (rfl) rfl) ?_
  first | refine lw_val rfl (run_assign (v := .bool _) rfl) ?_
  refine lw_nil ?_
  refine cw_ret ?_
  refine res1 (v := .bool _) rfl rfl ?_
  exact ⟨_, rfl, rfl, hs.suffix 4 rfl⟩
end Go.Proofs.YtkogkokmcmallaaGreatDoor
