/- An entry that came in; Open with a number of entries that may not be. Closed facts on the program's head, that each row of this seat asks for. -/
import Derived.Test.YtdkgdjnbpjjfmaaGreatDoorU6
import Derived.Test.YtdkgdjnbpjjfmaaGreatDoorU2
import Derived.Test.YtdkgdjnbpjjfmaaGreatDoorU4
import Derived.Test.YtdkgdjnbpjjfmaaGreatDoorRows
import Derived.JoinedOf
import Derived.ProofKit
namespace Go.Proofs.YtdkgdjnbpjjfmaaGreatDoor
set_option linter.all false
open Go.RowKit Go.Deep
attribute [local irreducible] zAo eV
variable {g w : World} {L M : List HP} {ad : Nat → Addr} {d : Nat} {dk : Dk}

set_option maxRecDepth 100000 in
theorem open_entry {H : Type} {enc : TypeId × Value → H} {w : World} {base : Nat} {spare : Nat → Bool} {held : Bool} {fuel : Nat} {cs : List Value} {x : DataW H × List MemPlace}
    (h : DataW.trod enc Tryz.prog w base spare held fuel 41 cs = some x) : ∃ (k : Int) (m : Mf) (e o : SA), cs = .int .i64 k :: mfL m e o ∧ MfIn w m e o := by
  have ck : Tryz.prog.cellsOf 41 = 7 := by kernel_rfl
  have cm : Tryz.prog.cellsOf 39 = 6 := by kernel_rfl
  have c1 : Tryz.prog.cellsOf 3 = 1 := by kernel_rfl
  obtain ⟨xs, n, _, _, hl, hxl, hf⟩ := DataW.trod_struct uz41 h
  rw [ck] at hl
  match cs, hl with
  | [v0, v1, v2, v3, v4, v5, v6], _ =>
    have get : ∀ (i : Nat), i < 2 → ∃ y, xs[i]? = some y := fun i hi => ⟨xs[i]'(by rw [hxl]; exact hi), List.getElem?_eq_getElem _⟩
    obtain ⟨y0, q0⟩ := get 0 (by decide)
    obtain ⟨y1, q1⟩ := get 1 (by decide)
    have g0 : DataW.trod enc Tryz.prog w base spare held n 3 (([v0, v1, v2, v3, v4, v5, v6].drop 0).take (Tryz.prog.cellsOf 3)) = some y0 := (hf 0 _ rfl).trans q0
    have g1 : DataW.trod enc Tryz.prog w base spare held n 39 (([v0, v1, v2, v3, v4, v5, v6].drop 1).take (Tryz.prog.cellsOf 39)) = some y1 := (hf 1 _ rfl).trans q1
    rw [c1] at g0
    rw [cm] at g1
    have g1 : DataW.trod enc Tryz.prog w base spare held n 39 [v1, v2, v3, v4, v5, v6] = some y1 := g1
    obtain ⟨z0, e0, _, _⟩ := DataW.trod_int uz3 g0
    cases e0
    obtain ⟨m, e, o, hm, hin⟩ := open_mani g1
    exact ⟨z0, m, e, o, by rw [← hm]; rfl, hin⟩
theorem openNo_sl (hE : ErrV ad g) (hs : Mem g w L) {every : Int} (hv : every < 1 ∨ 4096 < every) : Calls Tryz.prog 10 #[.pointer (some ⟨d, 0, none⟩), .int .i64 every] w (Ret fun v w' => v = .tuple #[.pointer none, zAo ad 105] ∧ Mem g w' L) := by
  refine zAm Tryz.func10 rfl rfl ?_
  skip
  refine zA5 (zA1 ?_)
  refine zA rfl (zA2 (v := .pointer none) rfl) ?_
  refine zA rfl (zA2 (v := .nilIface) rfl) ?_
  refine zA4 ?_
  refine zA5 ?_
  refine zA5 ?_
  obtain hlo | hhi := hv
  ·
   refine zA1 ?_
   refine zA rfl (zA0 (v := .int .i64 _) rfl) ?_
   refine zA rfl (zB3 rfl rfl) ?_
   refine zA rfl (zA0 (v := .bool _) rfl) ?_
   refine zA9 rfl rfl rfl (decide_eq_true hlo) ?_
   refine zA9 rfl rfl rfl (decide_eq_true hlo) ?_
   refine zA rfl (zAi (v := .bool _) rfl (decide_eq_true hlo) rfl) ?_
   refine zA4 ?_
   refine zB9 rfl rfl ?_
   refine zA5 ?_
   refine zAw zBt hs ?_
   intro w tr hK
   replace hs := tr _ hs
   clear tr
   refine zA6 0 rfl rfl (fun w hs => zA7 zCv rfl rfl (hE.cellW hs 105 (by decide) rfl)) hK ?_
   refine zA6 1 rfl rfl (fun w hs => zA2 (v := .pointer none) rfl) hK ?_
   refine zA6 2 rfl rfl (fun w hs => zA2 (v := zAo ad _) rfl) hK ?_
   refine zAs (by kernel_rfl) ?_
   clear hK
   refine zAf ?_
   refine res2 (v := .pointer none) (v2 := zAo ad _) rfl rfl rfl ?_
   exact ⟨_, rfl, rfl, hs⟩
  ·
   refine zA1 ?_
   refine zA rfl (zA0 (v := .int .i64 _) rfl) ?_
   refine zA rfl (zB3 rfl rfl) ?_
   refine zA rfl (zA0 (v := .bool _) rfl) ?_
   refine zAk rfl rfl (decide_eq_false (by omega)) ?_
   refine zA rfl (zA0 (v := .int .i64 _) rfl) ?_
   refine zAk rfl rfl (decide_eq_false (by omega)) ?_
   refine zA rfl (zBi rfl rfl) ?_
   refine zA rfl (zAj (v := .bool _) rfl (decide_eq_false (by omega)) rfl) ?_
   refine zA4 ?_
   refine zB9 rfl (decide_eq_true hhi) ?_
   refine zA5 ?_
   refine zAw zBt hs ?_
   intro w tr hK
   replace hs := tr _ hs
   clear tr
   refine zA6 0 rfl rfl (fun w hs => zA7 zCv rfl rfl (hE.cellW hs 105 (by decide) rfl)) hK ?_
   refine zA6 1 rfl rfl (fun w hs => zA2 (v := .pointer none) rfl) hK ?_
   refine zA6 2 rfl rfl (fun w hs => zA2 (v := zAo ad _) rfl) hK ?_
   refine zAs (by kernel_rfl) ?_
   clear hK
   refine zAf ?_
   refine res2 (v := .pointer none) (v2 := zAo ad _) rfl rfl rfl ?_
   exact ⟨_, rfl, rfl, hs⟩
end Go.Proofs.YtdkgdjnbpjjfmaaGreatDoor
namespace Go.Proofs.YtdkgdjnbpjjfmaaGreatDoor
set_option maxRecDepth 100000
theorem headMay : Tryz.prog.mayEnter = true := by kernel_rfl
theorem headLifts : (Rows.mlogBytesRow.lifted == Tryz.prog.liftsFinal) = true := by kernel_rfl
theorem headMake : (Tryz.prog.make == some Rows.mlogBytesRow.make) = true := by kernel_rfl
theorem both_true {a b : Bool} (ha : a = true) (hb : b = true) : (a && b) = true := by rw [ha, hb]; rfl
end Go.Proofs.YtdkgdjnbpjjfmaaGreatDoor
