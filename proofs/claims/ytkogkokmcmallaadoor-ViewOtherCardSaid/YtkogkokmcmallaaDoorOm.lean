/- A manifest that came in. -/
import Derived.Test.YtkogkokmcmallaaDoorRw
import Derived.Test.YtkogkokmcmallaaDoorLVc
namespace Go.Proofs.YtkogkokmcmallaaDoor
set_option linter.all false
open Go.RowKit Go.Deep

/-- Its slices lie there; its sums are of 32 bits. -/
def MfIn (w : World) (m : Mf) (e o : SA) : Prop := RowsR w 2 (.slice e.1 m.eps.length e.2) (m.eps.map prL) ∧ RowsR w 3 (.slice o.1 m.obs.length o.2) (m.obs.map obL) ∧ ∀ y ∈ m.obs, y.2.2 < 4294967296
theorem wf_u32 {n : Int} (h : (Lit.int .u32 n).wf = true) : 0 ≤ n ∧ n < 4294967296 := by
  simp only [Lit.wf, Bool.and_eq_true, decide_eq_true_eq, IntKind.min, IntKind.max, IntKind.signed, IntKind.bits] at h
  simp at h
  omega
set_option maxRecDepth 100000 in
theorem open_mani {H : Type} {enc : TypeId × Value → H} {w : World} {base : Nat} {spare : Nat → Bool} {held : Bool} {fuel : Nat} {cs : List Value} {x : DataW H × List MemPlace}
    (h : DataW.trod enc Tryd.prog w base spare held fuel 39 cs = some x) : ∃ (m : Mf) (e o : SA), cs = mfL m e o ∧ MfIn w m e o := by
  have ck : Tryd.prog.cellsOf 39 = 6 := by kernel_rfl
  have cp : Tryd.prog.cellsOf 74 = 2 := by kernel_rfl
  have cb : Tryd.prog.cellsOf 35 = 3 := by kernel_rfl
  have c1 : Tryd.prog.cellsOf 3 = 1 := by kernel_rfl
  have c2 : Tryd.prog.cellsOf 2 = 1 := by kernel_rfl
  have c3 : Tryd.prog.cellsOf 9 = 1 := by kernel_rfl
  have c4 : Tryd.prog.cellsOf 33 = 1 := by kernel_rfl
  have c5 : Tryd.prog.cellsOf 36 = 1 := by kernel_rfl
  have c6 : Tryd.prog.cellsOf 37 = 1 := by kernel_rfl
  obtain ⟨xs, n, _, _, hl, hxl, hf⟩ := DataW.trod_struct Tryd.underlying39 h
  rw [ck] at hl
  match cs, hl with
  | [v0, v1, v2, v3, v4, v5], _ =>
    have get : ∀ (i : Nat), i < 6 → ∃ y, xs[i]? = some y := fun i hi => ⟨xs[i]'(by rw [hxl]; exact hi), List.getElem?_eq_getElem _⟩
    obtain ⟨y0, q0⟩ := get 0 (by decide)
    obtain ⟨y1, q1⟩ := get 1 (by decide)
    obtain ⟨y2, q2⟩ := get 2 (by decide)
    obtain ⟨y3, q3⟩ := get 3 (by decide)
    obtain ⟨y4, q4⟩ := get 4 (by decide)
    obtain ⟨y5, q5⟩ := get 5 (by decide)
    have g0 : DataW.trod enc Tryd.prog w base spare held n 3 (([v0, v1, v2, v3, v4, v5].drop 0).take (Tryd.prog.cellsOf 3)) = some y0 := (hf 0 _ rfl).trans q0
    have g1 : DataW.trod enc Tryd.prog w base spare held n 2 (([v0, v1, v2, v3, v4, v5].drop 1).take (Tryd.prog.cellsOf 2)) = some y1 := (hf 1 _ rfl).trans q1
    have g2 : DataW.trod enc Tryd.prog w base spare held n 2 (([v0, v1, v2, v3, v4, v5].drop 2).take (Tryd.prog.cellsOf 2)) = some y2 := (hf 2 _ rfl).trans q2
    have g3 : DataW.trod enc Tryd.prog w base spare held n 2 (([v0, v1, v2, v3, v4, v5].drop 3).take (Tryd.prog.cellsOf 2)) = some y3 := (hf 3 _ rfl).trans q3
    have g4 : DataW.trod enc Tryd.prog w base spare held n 36 (([v0, v1, v2, v3, v4, v5].drop 4).take (Tryd.prog.cellsOf 36)) = some y4 := (hf 4 _ rfl).trans q4
    have g5 : DataW.trod enc Tryd.prog w base spare held n 37 (([v0, v1, v2, v3, v4, v5].drop 5).take (Tryd.prog.cellsOf 37)) = some y5 := (hf 5 _ rfl).trans q5
    rw [c1] at g0
    rw [c2] at g1 g2 g3
    rw [c5] at g4
    rw [c6] at g5
    obtain ⟨z0, e0, _, _⟩ := DataW.trod_int Tryd.underlying3 g0
    obtain ⟨z1, e1, _, _⟩ := DataW.trod_int Tryd.underlying2 g1
    obtain ⟨z2, e2, _, _⟩ := DataW.trod_int Tryd.underlying2 g2
    obtain ⟨z3, e3, _, _⟩ := DataW.trod_int Tryd.underlying2 g3
    cases e0; cases e1; cases e2; cases e3
    have g4 : DataW.trod enc Tryd.prog w base spare held n 36 [v4] = some y4 := g4
    have g5 : DataW.trod enc Tryd.prog w base spare held n 37 [v5] = some y5 := g5
    obtain ⟨a4, n4, k4, rfl⟩ : ∃ a n c, v4 = .slice a n c := by
      rcases open_slice Tryd.underlying36 g4 with ⟨e, _⟩ | ⟨a, l, c, _, _, _, _, e, _⟩ <;> cases e <;> exact ⟨_, _, _, rfl⟩
    obtain ⟨a5, n5, k5, rfl⟩ : ∃ a n c, v5 = .slice a n c := by
      rcases open_slice Tryd.underlying37 g5 with ⟨e, _⟩ | ⟨a, l, c, _, _, _, _, e, _⟩ <;> cases e <;> exact ⟨_, _, _, rfl⟩
    obtain ⟨eps, h4, _⟩ := open_structs (P := Tryd.prog) (k := 2) prL (fun _ => True) Tryd.underlying36 Tryd.underlying74 cp (by decide) (fun row m hl hf => by
      match row, hl with
      | [u0, u1], _ =>
        obtain ⟨t0, r0⟩ := hf 0 _ rfl
        obtain ⟨t1, r1⟩ := hf 1 _ rfl
        have r0 : DataW.trod enc Tryd.prog w base spare held m 3 (([u0, u1].drop 0).take (Tryd.prog.cellsOf 3)) = some t0 := r0
        have r1 : DataW.trod enc Tryd.prog w base spare held m 2 (([u0, u1].drop 1).take (Tryd.prog.cellsOf 2)) = some t1 := r1
        rw [c1] at r0
        rw [c2] at r1
        obtain ⟨z0, e0, _, _⟩ := DataW.trod_int Tryd.underlying3 r0
        obtain ⟨z1, e1, _, _⟩ := DataW.trod_int Tryd.underlying2 r1
        cases e0; cases e1
        exact ⟨(z0, z1), rfl, trivial⟩) g4
    obtain ⟨obs, h5, h6⟩ := open_structs (P := Tryd.prog) (k := 3) obL (fun y : Ob => y.2.2 < 4294967296) Tryd.underlying37 Tryd.underlying35 cb (by decide) (fun row m hl hf => by
      match row, hl with
      | [u0, u1, u2], _ =>
        obtain ⟨t0, r0⟩ := hf 0 _ rfl
        obtain ⟨t1, r1⟩ := hf 1 _ rfl
        obtain ⟨t2, r2⟩ := hf 2 _ rfl
        have r0 : DataW.trod enc Tryd.prog w base spare held m 9 (([u0, u1, u2].drop 0).take (Tryd.prog.cellsOf 9)) = some t0 := r0
        have r1 : DataW.trod enc Tryd.prog w base spare held m 3 (([u0, u1, u2].drop 1).take (Tryd.prog.cellsOf 3)) = some t1 := r1
        have r2 : DataW.trod enc Tryd.prog w base spare held m 33 (([u0, u1, u2].drop 2).take (Tryd.prog.cellsOf 33)) = some t2 := r2
        rw [c3] at r0
        rw [c1] at r1
        rw [c4] at r2
        obtain ⟨s0, e0, _, _⟩ := DataW.trod_string Tryd.underlying9 r0
        obtain ⟨z1, e1, _, _⟩ := DataW.trod_int Tryd.underlying3 r1
        obtain ⟨z2, e2, _, f2⟩ := DataW.trod_int Tryd.underlying33 r2
        cases e0; cases e1; cases e2
        have h9 := wf_u32 f2
        exact ⟨(s0, z1, z2.toNat), by simp only [obL]; rw [Int.toNat_of_nonneg h9.1], by show z2.toNat < _; omega⟩) g5
    have l4 : n4 = eps.length := by have := h4.len; simpa using this
    have l5 : n5 = obs.length := by have := h5.len; simpa using this
    subst l4 l5
    exact ⟨⟨z0, z1, z2, z3, eps, obs⟩, (a4, k4), (a5, k5), rfl, h4, h5, h6⟩
end Go.Proofs.YtkogkokmcmallaaDoor
