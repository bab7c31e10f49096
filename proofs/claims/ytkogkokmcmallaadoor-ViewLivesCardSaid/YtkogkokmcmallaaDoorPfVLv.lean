/- The law ViewLives: for every input its Go text returns true, and its arguments read as they did; where the sentinels that the row lists are laid as the program lays them. -/
import Derived.Test.YtkogkokmcmallaaDoorRows
import Derived.Test.YtkogkokmcmallaaDoorTie
import Derived.Test.YtkogkokmcmallaaDoorCards
import Derived.Test.YtkogkokmcmallaaDoorFacts
import Derived.Test.YtkogkokmcmallaaDoorLaid
import Derived.Test.YtkogkokmcmallaaDoorLVb
import Derived.WalkKit
import Derived.ProofKit
import Derived.OpenShut
import Derived.ShutString
import Derived.ChangeOld
import Derived.Below
import Derived.SevenTiedAt
import Derived.LaidMore
import Derived.LaidHandle
import Derived.LaidLaws
namespace Go.Proofs.YtkogkokmcmallaaDoor.viewLives
open Go.ChangeShapes Go.WideShapes Go.ChangeAt Go.RowKit
open Go.ChangeMaps (open_string shut_string)
set_option linter.unusedVariables false

theorem own : ownKnob Tryd.prog.godebug = none := by kernel_rfl
theorem laidOut : laidOutB Tryd.prog = true := by kernel_rfl

set_option maxRecDepth 100000 in
theorem walk (a0 : Option Addr) (len0 cap0 : Nat) (z0 : List Int) (w : World) (w0 : IsRow .i64 w a0 len0 cap0 z0) (b0 : ∀ b, blk (.slice a0 len0 cap0) = some b → b < w.heap.size) {ad : Nat → Addr} (hE : Errs allCodes ad w.heap.size w) :
    Calls Tryd.prog 6 #[.slice a0 len0 cap0] w fun e w' => e = .returned (.bool true) ∧ Below w.heap.size w w' := by
  exact law_of (viewLives_sl hE (Mem.start w) (Came.ints w0.ints b0).1 (Came.ints w0.ints b0).2)

theorem door_met (os : Os) (args : Array Value) : laidMetH Tryd.prog Rows.viewLivesRow.laid ((World.doorLaid Tryd.prog 370 os).forCall (fun _ _ => 0) ⟨#[], args, []⟩).memory :=
  laidMetH_of_parts3 (fuel := 8) (laidMet_of_run' 8 (by kernel_rfl) (by kernel_rfl)) (by kernel_rfl) (by kernel_rfl)

/-! ### THE ROW's STEP: WRITTEN OUT: LEAVE IT -/
set_option maxRecDepth 100000 in
theorem lifted (os : Os) (started : os.Started) (H : Type) (enc : TypeId × Value → H) :
    ReturnsInHanded {} Tryd.checked os 6 .any (fun w args => (Rows.viewLivesSpec.pre enc Tryd.prog Tryd.f6 [] false w args ∧ laidMetH Tryd.prog Rows.viewLivesRow.laid w) ∧ sizedMet enc Tryd.prog Tryd.f6 (OpenSpec.ofChange Rows.viewLivesSpec) false w args) (Rows.viewLivesSpec.post enc Tryd.prog Tryd.f6 false true false false) := by
  refine returnsInHanded_of_change_and (C := Tryd.checked) (X := fun w _ => laidMetH Tryd.prog Rows.viewLivesRow.laid w) (fun _ _ _ hh h => h.of_heap hh) own started (by kernel_rfl) Tryd.func6
    (ChangeSpec.witness_shaped (enc := enc) (C := Tryd.checked) (os := os) (X := fun w _ => laidMetH Tryd.prog Rows.viewLivesRow.laid w) false (World.doorLaid Tryd.prog 370 os) #[.slice none 0 0] 8 rfl (World.shaped_of_RefB (by kernel_rfl) (by kernel_rfl)) (by kernel_rfl) (by kernel_rfl) (by kernel_rfl) (door_met os _)) ?_
  intro W base args ds gs before hval0 hW hcnd _ hL _
  have hval : ∀ (j : Nat) t v, Tryd.f6.params[j]? = some t → args[j]? = some v → Value.okWide Tryd.prog W .any base t v := hval0
  have hW' := hW
  obtain ⟨p, q, hA0, hV, rfl, hfz, hnd⟩ := hW
  have hA : DataW.TrodAll enc Tryd.prog W 0 (fun _ => true) true Tryd.f6.params.toList args.toList ds p := hA0
  rw [Tryd.params6] at hA hval
  obtain ⟨v0, vs0, d0, ds0, p0, q0, hargs, rfl, rfl, h0, r0⟩ := trodAll_cons hA
  obtain ⟨rfl, rfl, rfl⟩ := trodAll_nil r0
  obtain rfl : args = #[v0] := by cases args; simp_all
  obtain ⟨rfl, rfl⟩ := trodVars_none hV
  obtain ⟨a0, len0, cap0, rfl⟩ := okWide_slice Tryd.underlying22 (hval 0 22 v0 rfl rfl)
  have k0 := h0
  have lt0 : ∀ x ∈ p0, x.block < W.heap.size := by obtain ⟨m, hm⟩ := k0; exact DataW.trod_lt m _ _ _ hm
  obtain ⟨z0, w0⟩ : ∃ zs, IsRow .i64 W a0 len0 cap0 zs := by
    obtain ⟨fuel, hf⟩ := h0
    rcases open_ints Tryd.underlying22 Tryd.underlying3 (by kernel_rfl) hf with ⟨hcs, _⟩ | ⟨x, l, c, zs, hcs, _, hl, hm, hz, _, hcell, hwz⟩
    · simp [Value.cells] at hcs
      obtain ⟨rfl, rfl, rfl⟩ := hcs
      exact ⟨[], .inl ⟨rfl, rfl, rfl, rfl⟩⟩
    · simp [Value.cells] at hcs
      obtain ⟨rfl, rfl, rfl⟩ := hcs
      exact ⟨zs, .inr ⟨_, rfl, hl, hm, by simpa using hz, hcell, hwz⟩⟩
  clear hA0 hval0
  obtain ⟨ad, hE⟩ := errs_of_laid (L := allCodes) hL rfl (by decide) (by decide) (by decide)
  refine (walk a0 len0 cap0 z0 W w0 (blk_of_ok Tryd.underlying22 (hval 0 22 _ rfl rfl)) hE).mono fun e W' ⟨he, bel⟩ => ?_
  subst he
  exact ⟨_, rfl, _, _, _, [], _, [], hW', trodAll_mk1 (shut_bool Tryd.underlying4 _), (trodAll_cons_mk (Below.trod laidOut (by kernel_rfl) (of_decide_eq_true (by kernel_rfl)) k0 bel lt0) trodAll_mk0), rfl, bel.frame _, fun h => by cases h⟩

theorem closed1 : joinedFacts Tryd.pinned.checked.prog 6 Tryd.f6 Rows.viewLivesSpec Rows.viewLivesRow = true :=
  (both_true (both_true (both_true (both_true (both_true (both_true (both_true (both_true (both_true (both_true (both_true (both_true (both_true (both_true (both_true (both_true (both_true (both_true (both_true (both_true (both_true (both_true (both_true (both_true (both_true (both_true (both_true (both_true (both_true (both_true (both_true (by kernel_rfl) (by kernel_rfl)) (by kernel_rfl)) (by kernel_rfl)) (by kernel_rfl)) (by kernel_rfl)) (by kernel_rfl)) (by kernel_rfl)) (by kernel_rfl)) (by kernel_rfl)) (by kernel_rfl)) (by kernel_rfl)) (by kernel_rfl)) (by kernel_rfl)) (by kernel_rfl)) (by kernel_rfl)) (by kernel_rfl)) (by kernel_rfl)) (by kernel_rfl)) (by kernel_rfl)) (by kernel_rfl)) (by kernel_rfl)) (by kernel_rfl)) (by kernel_rfl)) (by kernel_rfl)) headMay) headLifts) headMake) (by kernel_rfl)) (by kernel_rfl)) (by kernel_rfl)) (by kernel_rfl))
theorem closed2 : Tryd.f6.isInstance Tryd.pinned.checked.prog Rows.viewLivesRow.origin Rows.viewLivesRow.targs := of_decide_eq_true (by kernel_rfl)
theorem closed0 : decide (Check.packageOf Tryd.f6.name = "main") = false := by kernel_rfl
theorem closed3 : Tryd.f6.isWrapper Tryd.pinned.checked.prog Rows.viewLivesRow.wrapper Rows.viewLivesRow.mainSum := by
  unfold Func.isWrapper; rw [if_neg (of_decide_eq_false closed0)]; exact ⟨rfl, rfl⟩
theorem closed4 (os : Os) (started : os.Started) (H : Type) (enc : TypeId × Value → H) :
    ReturnsInHanded Rows.viewLivesRow.assume Tryd.pinned.checked os 6 .any (Rows.viewLivesRow.pre enc Tryd.pinned.checked.prog Tryd.f6 (OpenSpec.ofChange Rows.viewLivesSpec)) (Rows.viewLivesSpec.post enc Tryd.pinned.checked.prog Tryd.f6 Rows.viewLivesRow.apart Rows.viewLivesRow.fresh Rows.viewLivesRow.handsOn Rows.viewLivesRow.again) := lifted os started H enc
theorem closed5 : Tryd.pinned.checked.prog.funcNamed Rows.viewLivesRow.func = some 6 := by kernel_rfl
theorem over : Rows.viewLivesRow.holds Tryd.pinned (OpenSpec.ofChange Rows.viewLivesSpec) :=
  OpenClaim.holds_of_wide 6 Tryd.f6 rfl rfl rfl rfl rfl rfl rfl ⟨rfl, rfl, rfl, rfl, rfl⟩ rfl rfl rfl rfl rfl closed5 Tryd.func6 closed1 closed2 closed3
    (fun os started H enc _ => closed4 os started H enc)

theorem card_wf : Rows.viewLivesRow.wfByText (OpenSpec.ofChange Rows.viewLivesSpec) = true := by kernel_rfl
theorem card_main : Tryd.pinned.checked.prog.mainIs = some ((true, "0fcb2fd90cd10c48dcb903701277a6f4dd740ae4f331796b75bf842385a529db").1, ((true, "0fcb2fd90cd10c48dcb903701277a6f4dd740ae4f331796b75bf842385a529db").2 : String).toList) := by kernel_rfl
theorem card_looks : true = Tryd.pinned.checked.prog.looks [] := by kernel_rfl
theorem card_goes : false = Rows.viewLivesRow.goesBy Tryd.pinned.checked.prog := by kernel_rfl
theorem card_named : Tryd.prog.funcNamed "cordwood/cordwoodlaw16.ViewLives" = some 6 := by kernel_rfl
theorem card_stand : ([22].all fun u => !Tryd.prog.wantsStandIn u) = true := by kernel_rfl
theorem card_params (t : TypeId) (j : Nat) (ht : Tryd.f6.params[j]? = some t) : Tryd.pinned.checked.prog.wantsStandIn t = false := by
  rw [Tryd.params6] at ht
  have hm : t ∈ [22] := by
    have := Array.mem_of_getElem? ht
    first | (revert this; simp <;> omega) | (simp only [List.mem_toArray, List.mem_cons, List.not_mem_nil, or_false] at this ⊢; omega) | grind
  exact (show Tryd.prog.wantsStandIn t = false by simpa using List.all_eq_true.1 card_stand t hm)
theorem card_fn (f : FuncId) (fn : Func) (hf : Tryd.pinned.checked.prog.funcNamed Rows.viewLivesRow.func = some f) (hfn : Tryd.pinned.checked.prog.funcs[f]? = some fn) :
    true = Tryd.pinned.checked.prog.looks [] ∧ ∀ (j : Nat) t, fn.params[j]? = some t → Tryd.pinned.checked.prog.wantsStandIn t = false := by
  obtain rfl : f = 6 := Option.some.inj (card_named.symm.trans hf) |>.symm
  obtain rfl : fn = Tryd.f6 := (Option.some.inj (Tryd.func6.symm.trans hfn)).symm
  exact ⟨card_looks, fun j t ht => card_params t j ht⟩
/-- The tied card. -/
theorem proved : Rows.ViewLivesCardSaid :=
  Claim7.holds_tied_plain_at .later [] [.sentinel, .sentinel, .sentinel, .sentinel, .sentinel, .sentinel, .sentinel, .sentinel, .sentinel, .sentinel, .sentinel, .sentinel, .sentinel, .sentinel, .sentinel, .sentinel, .sentinel, .sentinel, .sentinel] true (true, "0fcb2fd90cd10c48dcb903701277a6f4dd740ae4f331796b75bf842385a529db") true
    over (fun _ h => by cases h) card_wf (fun _ h => by cases h) viewLives_row_tie rfl ⟨rfl, rfl⟩ card_main rfl card_fn card_goes
#print axioms proved
end Go.Proofs.YtkogkokmcmallaaDoor.viewLives
