/- The store's and the client's Uploads. -/
import Derived.Test.YtkogkokmcmallaaGreatDoorLi
namespace Go.Proofs.YtkogkokmcmallaaGreatDoor
set_option linter.all false
open Go.RowKit
attribute [local irreducible] errV
variable {g w : World} {L M : List HP} {ad : Nat → Addr} {p q : Nat} {st : St}

def St.upped (st : St) : Prop := (∀ x ∈ keysOf st.ups, InI64 x) ∧ st.ups.length ≤ 1000000
def St.upsR (st : St) : List Int × Nat × St := if st.next = 1 ∨ st.next = 2 then ([], 111, st.begin) else (sortI (keysOf st.ups), 0, st.begin)
theorem upsC_sl (hE : ErrG ad g) (hup : st.upped) {ob sb : Nat} (hs : Mem g w (StoreC p st :: cells ob [.slice none 0 0] 22 :: cells sb [.pointer (some ⟨p, 0, none⟩)] 26 :: M)) :
    Calls Tryz.prog 165 #[.pointer (some ⟨sb, 0, none⟩), .pointer (some ⟨ob, 0, none⟩)] w
      (Ret fun v w' => ∃ a c, v = errV ad 0 ∧ Mem g w' (own (.slice a (sortI (keysOf st.ups)).length c) (intsL (sortI (keysOf st.ups))) :: StoreC p st :: cells ob [.slice a (sortI (keysOf st.ups)).length c] 22 :: cells sb [.pointer (some ⟨p, 0, none⟩)] 26 :: M)) := by
  refine calls_cw Tryz.func165 rfl rfl ?_
  skip
  refine cw_seq ?_
  refine cw_region ?_
  refine lw_val rfl (run_assign (v := .nilIface) rfl) ?_
  refine lw_nil ?_
  refine cw_seq ?_
  refine cw_region ?_
  refine lw_val rfl (run_load Tryz.underlying26 rfl rfl (hs.cellAt 2 rfl rfl)) ?_
  refine lw_call rfl en21 (open_sl hs hup.1 hup.2) ?_
  clear hs
  rintro _ w ⟨a4, c4, rfl, hs⟩
  refine lw_store (v := .slice _ _ _) hs 2 rfl sz22 rfl rfl rfl rfl ?_
  clear hs
  intro w hs
  try simp only [List.set_cons_succ, List.set_cons_zero] at hs
  refine lw_nil ?_
  refine cw_seq ?_
  refine cw_region ?_
  refine lw_val rfl (run_assign (v := .nilIface) rfl) ?_
  refine lw_nil ?_
  refine cw_ret ?_
  refine res1 (v := .nilIface) rfl rfl ?_
  exact ⟨_, rfl, a4, c4, (errV_zero ad).symm, hs⟩
theorem ups_sl (hE : ErrG ad g) (hup : st.upped) (hs : Mem g w (StoreC p st :: M)) (hcl : st.calls < 4611686018427387904) (hfl : st.failed < 4611686018427387904) {out : List Int} {k : Nat} {st2 : St} (hk : st.upsR = (out, k, st2)) :
    Calls Tryz.prog 60 #[.pointer (some ⟨p, 0, none⟩)] w
      (Ret fun v w' => ∃ a c, v = .tuple #[.slice a out.length c, errV ad k] ∧ Mem g w' (own (.slice a out.length c) (intsL out) :: StoreC p st2 :: M)) := by
  have hbn : st.begin.upped := hup
  have k1 : st.upsR.1 = out := by rw [hk]
  have k2 : st.upsR.2.1 = k := by rw [hk]
  have k3 : st.upsR.2.2 = st2 := by rw [hk]
  subst k1 k2 k3
  refine calls_cw Tryz.func60 rfl rfl ?_
  skip
  refine cw_seq ?_
  refine cw_region ?_
  refine lw_box (v := .pointer (some _)) hs rfl rfl ?_
  clear hs
  intro b1 w hs
  try simp only [List.set_cons_succ, List.set_cons_zero] at hs
  refine lw_val rfl (run_assign (v := .slice _ _ _) rfl) ?_
  refine lw_val rfl (run_assign (v := .nilIface) rfl) ?_
  refine lw_nil ?_
  refine cw_seq ?_
  refine cw_region ?_
  refine lw_alloc hs rfl ze22 ?_
  clear hs
  intro b4 w hs
  try simp only [List.set_cons_succ, List.set_cons_zero] at hs
  refine lw_nil ?_
  refine cw_seq ?_
  replace hs := hs.pick 2 rfl
  simp only [List.eraseIdx_cons_succ, List.eraseIdx_cons_zero] at hs
  refine cw_region ?_
  refine lw_val rfl (run_load Tryz.underlying26 rfl rfl (hs.cellAt 2 rfl rfl)) ?_
  refine lw_val rfl (run_makeFunc) ?_
  refine lw_call rfl en91 (call_sl (R := fun c w' => ∃ out a k, (c = 0 → (out, c, st.begin) = st.upsR) ∧ (c ≠ 0 → ([], c, st.begin) = st.upsR) ∧ Mem g w' (own (.slice a out.length k) (intsL out) :: StoreC p st.begin :: cells b4 [.slice a out.length k] 22 :: M)) (cap := #[.pointer (some ⟨b1, 0, none⟩), .pointer (some ⟨b4, 0, none⟩)]) hE hs hcl hfl en165 (fun h1 w1 hs => ⟨[], none, 0, (fun h => by cases h), fun _ => by simp [St.upsR, h1], (hs.arr [0, 1] 3 (by decide)).addE (own_nil _)⟩) (fun h1 w1 hs => (upsC_sl hE hbn hs).mono (by rintro e w2 ⟨v, rfl, a, c, rfl, hs⟩; refine ⟨_, rfl, _, rfl, hs.nil, sortI (keysOf st.ups), a, c, ?_, ?_, hs.arr [0, 1, 2] 4 (by decide)⟩ <;> (by_cases h2 : st.next = 2 <;> simp [St.upsR, h1, h2])))) ?_
  clear hs
  rintro _ w ⟨c10, rfl, out, a10, k10, h0, h1, hs⟩
  refine lw_val rfl (run_assign (v := errV ad _) rfl) ?_
  refine lw_nil ?_
  refine cw_seq ?_
  refine cw_seq ?_
  refine cw_region ?_
  refine lw_val rfl (run_move (v := errV ad _) rfl) ?_
  refine lw_val rfl (run_neerrn (ad := ad) rfl) ?_
  refine lw_nil ?_
  refine cw_if rfl ?_ ?_
  · intro h10
    have g10 := ne_t h10
    refine cw_seq ?_
    refine cw_region ?_
    refine lw_val rfl (run_move (v := errV ad _) rfl) ?_
    refine lw_val rfl (run_assign (v := .slice _ _ _) rfl) ?_
    refine lw_val rfl (run_assign (v := errV ad _) rfl) ?_
    refine lw_nil ?_
    refine cw_ret ?_
    refine res2 (v := .slice _ _ _) (v2 := errV ad _) rfl rfl rfl ?_
    rw [← h1 g10]
    exact ⟨_, rfl, none, 0, rfl, (hs.arr [1] 3 (by decide)).addE (own_nil _)⟩
  · intro h10
    have g10 := ne_f h10
    refine cw_skip ?_
    refine cw_seq ?_
    refine cw_region ?_
    refine lw_val rfl (run_load Tryz.underlying22 rfl rfl (hs.cellAt 2 rfl rfl)) ?_
    refine lw_val rfl (run_assign (v := .slice _ _ _) rfl) ?_
    refine lw_val rfl (run_assign (v := .nilIface) rfl) ?_
    refine lw_nil ?_
    refine cw_ret ?_
    refine res2 (v := .slice _ _ _) (v2 := .nilIface) rfl rfl rfl ?_
    rw [← h0 g10]
    exact ⟨_, rfl, a10, k10, by rw [g10, errV_zero], hs.arr [0, 1] 3 (by decide)⟩

/-! ### the client's Uploads -/
def outI (ob : Nat) (out : List Int) : HP := ex fun x : Option Addr × Nat => stars [cells ob [.slice x.1 out.length x.2] 22, own (.slice x.1 out.length x.2) (intsL out)]
theorem upsR_st (st : St) : st.upsR.2.2 = st.begin := by unfold St.upsR; split <;> rfl
theorem upsR_code (st : St) : st.upsR.2.1 = 0 ∨ st.upsR.2.1 ∈ coreCodes := by
  unfold St.upsR
  split
  · exact .inr m111
  · exact .inl rfl
abbrev upsStep (s : St × List Int) : Nat × St × List Int := (s.1.upsR.2.1, s.1.upsR.2.2, s.1.upsR.1)
theorem clUpsC_sl (hE : ErrG ad g) (hup : st.upped) {t a : Int} {cb ob : Nat} {out : List Int} (hcl : st.calls < 4611686018427387904) (hfl : st.failed < 4611686018427387904) (hs : Mem g w (clientC q p t a :: StoreC p st :: outI ob out :: cells cb [.pointer (some ⟨q, 0, none⟩)] 28 :: M)) :
    Calls Tryz.prog 179 #[.pointer (some ⟨cb, 0, none⟩), .pointer (some ⟨ob, 0, none⟩)] w
      (Ret fun v w' => v = errV ad st.upsR.2.1 ∧ Mem g w' (clientC q p t a :: StoreC p st.upsR.2.2 :: outI ob st.upsR.1 :: cells cb [.pointer (some ⟨q, 0, none⟩)] 28 :: M)) := by
  obtain ⟨x0, hs⟩ := (hs.pick 2 rfl).unex
  replace hs : Mem g w (cells ob [.slice x0.1 out.length x0.2] 22 :: own (.slice x0.1 out.length x0.2) (intsL out) :: clientC q p t a :: StoreC p st :: cells cb [.pointer (some ⟨q, 0, none⟩)] 28 :: M) := hs.unstars
  replace hs := hs.drop 1
  refine calls_cw Tryz.func179 rfl rfl ?_
  skip
  refine cw_seq ?_
  refine cw_region ?_
  refine lw_val rfl (run_assign (v := .nilIface) rfl) ?_
  refine lw_nil ?_
  refine cw_seq ?_
  refine cw_region ?_
  refine lw_val rfl (run_load Tryz.underlying28 rfl rfl (hs.cellAt 3 rfl rfl)) ?_
  refine lw_val rfl (run_nilCheckP rfl) ?_
  refine lw_val rfl (run_fieldAddr (o' := 0) Tryz.underlying137 rfl sz26 rfl rfl rfl) ?_
  refine lw_val rfl (run_load Tryz.underlying26 rfl rfl (hs.cellAt 1 rfl rfl)) ?_
  refine lw_call rfl en60 (ups_sl hE hup (hs.pick 2 rfl) hcl hfl rfl) ?_
  clear hs
  rintro _ w ⟨a10, c10, rfl, hs⟩
  refine lw_val rfl (run_move (v := .tuple _) rfl) ?_
  refine lw_val rfl (run_extract (v := .slice _ _ _) rfl rfl) ?_
  refine lw_val rfl (run_extract (v := errV ad _) rfl rfl) ?_
  refine lw_store (v := .slice _ _ _) hs 2 rfl sz22 rfl rfl rfl rfl ?_
  clear hs
  intro w hs
  try simp only [List.set_cons_succ, List.set_cons_zero] at hs
  refine lw_val rfl (run_assign (v := errV ad _) rfl) ?_
  refine lw_nil ?_
  refine cw_seq ?_
  refine cw_region ?_
  refine lw_val rfl (run_move (v := errV ad _) rfl) ?_
  refine lw_val rfl (run_assign (v := errV ad _) rfl) ?_
  refine lw_nil ?_
  refine cw_ret ?_
  refine res1 (v := errV ad _) rfl rfl ?_
  have h1 := Mem.stars (M := [cells ob [.slice a10 st.upsR.1.length c10] 22, own (.slice a10 st.upsR.1.length c10) (intsL st.upsR.1)]) (hs.arr [2, 0, 3, 1] 4 (by decide))
  have h2 := Mem.ex (f := fun x : Option Addr × Nat => stars [cells ob [.slice x.1 st.upsR.1.length x.2] 22, own (.slice x.1 st.upsR.1.length x.2) (intsL st.upsR.1)]) (a10, c10) h1
  exact ⟨_, rfl, rfl, h2.arr [1, 2, 0] 3 (by decide)⟩
theorem clUps_sl (hE : ErrG ad g) (hup : st.upped) {t : Nat} {a : Int} (ha : 0 ≤ a ∧ a < 1000000000000) (ht : t ≤ 8) (hs : Mem g w (clientC q p t a :: StoreC p st :: M)) (hcl : st.calls + 8 < 4611686018427387904) (hfl : st.failed + 8 < 4611686018427387904)
    {lost : Bool} {x n : Nat} {st2 : St} {out : List Int} (hk : againR upsStep t (st, []) = (lost, x, n, st2, out)) :
    Calls Tryz.prog 83 #[.pointer (some ⟨q, 0, none⟩)] w
      (Ret fun v w' => ∃ ao co, v = .tuple #[.slice ao out.length co, errV ad x] ∧ Mem g w' (own (.slice ao out.length co) (intsL out) :: clientC q p t (a + (n : Nat)) :: StoreC p st2 :: M)) := by
  refine calls_cw Tryz.func83 rfl rfl ?_
  skip
  refine cw_seq ?_
  refine cw_region ?_
  refine lw_box (v := .pointer (some _)) hs rfl rfl ?_
  clear hs
  intro b1 w hs
  try simp only [List.set_cons_succ, List.set_cons_zero] at hs
  refine lw_val rfl (run_assign (v := .slice _ _ _) rfl) ?_
  refine lw_val rfl (run_assign (v := .nilIface) rfl) ?_
  refine lw_nil ?_
  refine cw_seq ?_
  refine cw_region ?_
  refine lw_alloc hs rfl ze22 ?_
  clear hs
  intro b4 w hs
  try simp only [List.set_cons_succ, List.set_cons_zero] at hs
  refine lw_nil ?_
  refine cw_seq ?_
  have h1 := Mem.stars (M := [cells b4 [.slice none 0 0] 22, own (.slice none 0 0) []]) ((hs.addE (own_nil _)).arr [1, 0, 3, 4, 2] 5 (by decide))
  have h2 := Mem.ex (f := fun x : Option Addr × Nat => stars [cells b4 [.slice x.1 0 x.2] 22, own (.slice x.1 0 x.2) []]) (none, 0) h1
  replace hs : Mem g w (clientC q p t a :: StoreC p st :: outI b4 [] :: cells b1 [.pointer (some ⟨q, 0, none⟩)] 28 :: M) := h2.arr [1, 2, 0] 3 (by decide)
  clear h1 h2
  refine cw_region ?_
  refine lw_val rfl (run_load Tryz.underlying28 rfl rfl (hs.cellAt 3 rfl rfl)) ?_
  refine lw_val rfl (run_makeFunc) ?_
  refine lw_call rfl en167 (again_sl (cap := #[.pointer (some ⟨b1, 0, none⟩), .pointer (some ⟨b4, 0, none⟩)]) (s := (st, ([] : List Int))) (fun x : St × List Int => StoreC p x.1 :: outI b4 x.2 :: cells b1 [.pointer (some ⟨q, 0, none⟩)] 28 :: M) upsStep (fun n x => x.1.calls + n < 4611686018427387904 ∧ x.1.failed + n < 4611686018427387904 ∧ x.1.upped) hE ha ht hs ⟨by simp only; omega, by simp only; omega, hup⟩ (fun n s h => by have := begin_counts s.1; simp only [upsStep, upsR_st]; exact ⟨by omega, by omega, h.2.2⟩) (fun n s _ => upsR_code s.1) en179 (fun n s a w1 h hs => clUpsC_sl hE h.2.2 (by omega) (by omega) hs)) ?_
  clear hs
  rintro _ w ⟨rfl, hs⟩
  refine lw_val rfl (run_move (v := .tuple _) rfl) ?_
  refine lw_val rfl (run_extract (v := .bool _) rfl rfl) ?_
  refine lw_val rfl (run_extract (v := errV ad _) rfl rfl) ?_
  refine lw_val rfl (run_assign (v := .bool _) rfl) ?_
  refine lw_val rfl (run_assign (v := errV ad _) rfl) ?_
  refine lw_nil ?_
  rw [hk] at hs
  obtain ⟨x1, hs⟩ := (hs.pick 2 rfl).unex
  replace hs : Mem g w (cells b4 [.slice x1.1 out.length x1.2] 22 :: own (.slice x1.1 out.length x1.2) (intsL out) :: clientC q p t (a + (n : Nat)) :: StoreC p st2 :: cells b1 [.pointer (some ⟨q, 0, none⟩)] 28 :: M) := hs.unstars
  refine cw_seq ?_
  refine cw_region ?_
  refine lw_val rfl (run_load Tryz.underlying22 rfl rfl (hs.cellAt 0 rfl rfl)) ?_
  refine lw_val rfl (run_move (v := errV ad _) rfl) ?_
  refine lw_val rfl (run_assign (v := .slice _ _ _) rfl) ?_
  refine lw_val rfl (run_assign (v := errV ad _) rfl) ?_
  refine lw_nil ?_
  refine cw_ret ?_
  refine res2 (v := .slice _ _ _) (v2 := errV ad _) rfl rfl rfl ?_
  exact ⟨_, rfl, x1.1, x1.2, by rw [hk], hs.arr [1, 2, 3] 5 (by decide)⟩
end Go.Proofs.YtkogkokmcmallaaGreatDoor
