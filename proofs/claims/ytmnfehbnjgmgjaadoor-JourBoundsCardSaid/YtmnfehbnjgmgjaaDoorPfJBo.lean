/- The law JourBounds: for every input its Go text returns true, and its arguments read as they did; where the sentinels that the row lists are laid as the program lays them. -/
import Derived.Test.YtmnfehbnjgmgjaaDoorRows
import Derived.Test.YtmnfehbnjgmgjaaDoorTie
import Derived.Test.YtmnfehbnjgmgjaaDoorCards
import Derived.Test.YtmnfehbnjgmgjaaDoorFacts
import Derived.Test.YtmnfehbnjgmgjaaDoorLaid
import Derived.Test.YtmnfehbnjgmgjaaDoorJd
import Derived.WalkKit
import Derived.ProofKit
import Derived.OpenShut
import Derived.ShutString
import Derived.ChangeOld
import Derived.Below
import Derived.SevenTiedAt
import Derived.LaidMore
import Derived.LaidHandle
import Derived.LaidLaws
namespace Go.Proofs.YtmnfehbnjgmgjaaDoor.jourBounds
open Go.ChangeShapes Go.WideShapes Go.ChangeAt Go.RowKit
open Go.ChangeMaps (open_string shut_string)
set_option linter.unusedVariables false      -- a walk need not use every 'w<i>' (that an integer argument fits its kind)

theorem own : ownKnob Tryd.prog.godebug = none := by kernel_rfl

set_option maxRecDepth 100000 in
theorem walk (a0 : Int) (a1 : Int) (w0 : (Lit.int .i64 a0).wf = true) (w1 : (Lit.int .i64 a1).wf = true) (w : World) {ad : Nat → Addr} (hE : Errs allCodes ad w.heap.size w) :
    Calls Tryd.prog 5 #[.int .i64 a0, .int .i64 a1] w fun e w' => e = .returned (.bool true) ∧ Below w.heap.size w w' := by
  exact law_of (jourBounds_sl hE (Mem.start w) (wfI w0))

theorem door_met (os : Os) (args : Array Value) : laidMetH Tryd.prog Rows.jourBoundsRow.laid ((World.doorLaid Tryd.prog 370 os).forCall (fun _ _ => 0) ⟨#[], args, []⟩).memory :=
  laidMetH_of_parts3 (fuel := 8) (laidMet_of_run' 8 (by kernel_rfl) (by kernel_rfl)) (by kernel_rfl) (by kernel_rfl)

/-! ### THE ROW's STEP: WRITTEN OUT: LEAVE IT -/
set_option maxRecDepth 100000 in
theorem lifted (os : Os) (started : os.Started) (H : Type) (enc : TypeId × Value → H) :
    ReturnsInHanded {} Tryd.checked os 5 .any (fun w args => (Rows.jourBoundsSpec.pre enc Tryd.prog Tryd.f5 [] false w args ∧ laidMetH Tryd.prog Rows.jourBoundsRow.laid w) ∧ sizedMet enc Tryd.prog Tryd.f5 (OpenSpec.ofChange Rows.jourBoundsSpec) false w args) (Rows.jourBoundsSpec.post enc Tryd.prog Tryd.f5 false true false false) := by
  refine returnsInHanded_of_change_and (C := Tryd.checked) (X := fun w _ => laidMetH Tryd.prog Rows.jourBoundsRow.laid w) (fun _ _ _ hh h => h.of_heap hh) own started (by kernel_rfl) Tryd.func5
    (ChangeSpec.witness_shaped (enc := enc) (C := Tryd.checked) (os := os) (X := fun w _ => laidMetH Tryd.prog Rows.jourBoundsRow.laid w) false (World.doorLaid Tryd.prog 370 os) #[.int .i64 0, .int .i64 0] 8 rfl (World.shaped_of_RefB (by kernel_rfl) (by kernel_rfl)) (by kernel_rfl) (by kernel_rfl) (by kernel_rfl) (door_met os _)) ?_
  intro W base args ds gs before hval0 hW hcnd _ hL _
  have hval : ∀ (j : Nat) t v, Tryd.f5.params[j]? = some t → args[j]? = some v → Value.okWide Tryd.prog W .any base t v := hval0
  have hW' := hW
  obtain ⟨p, q, hA0, hV, rfl, hfz, hnd⟩ := hW
  have hA : DataW.TrodAll enc Tryd.prog W 0 (fun _ => true) true Tryd.f5.params.toList args.toList ds p := hA0
  rw [Tryd.params5] at hA hval
  obtain ⟨v0, vs0, d0, ds0, p0, q0, hargs, rfl, rfl, h0, r0⟩ := trodAll_cons hA
  obtain ⟨v1, vs1, d1, ds1, p1, q1, rfl, rfl, rfl, h1, r1⟩ := trodAll_cons r0
  obtain ⟨rfl, rfl, rfl⟩ := trodAll_nil r1
  obtain rfl : args = #[v0, v1] := by cases args; simp_all
  obtain ⟨rfl, rfl⟩ := trodVars_none hV
  obtain ⟨a0, rfl, rfl, rfl, w0⟩ := open_int Tryd.underlying3 (hval 0 3 v0 rfl rfl) h0
  obtain ⟨a1, rfl, rfl, rfl, w1⟩ := open_int Tryd.underlying3 (hval 1 3 v1 rfl rfl) h1
  clear hA0 hval0
  simp only [List.append_nil] at hW'
  obtain ⟨ad, hE⟩ := errs_of_laid (L := allCodes) hL rfl (by decide) (by decide) (by decide)
  refine (walk a0 a1 w0 w1 W hE).mono fun e W' ⟨he, bel⟩ => ?_
  subst he
  exact ⟨_, rfl, _, _, _, [], _, [], hW', trodAll_mk1 (shut_bool Tryd.underlying4 _), (trodAll_cons_mk (shut_int Tryd.underlying3 w0) (trodAll_cons_mk (shut_int Tryd.underlying3 w1) trodAll_mk0)), rfl, bel.frame _, fun h => by cases h⟩

theorem closed1 : joinedFacts Tryd.pinned.checked.prog 5 Tryd.f5 Rows.jourBoundsSpec Rows.jourBoundsRow = true :=
  (both_true (both_true (both_true (both_true (both_true (both_true (both_true (both_true (both_true (both_true (both_true (both_true (both_true (both_true (both_true (both_true (both_true (both_true (both_true (both_true (both_true (both_true (both_true (both_true (both_true (both_true (both_true (both_true (both_true (both_true (both_true (by kernel_rfl) (by kernel_rfl)) (by kernel_rfl)) (by kernel_rfl)) (by kernel_rfl)) (by kernel_rfl)) (by kernel_rfl)) (by kernel_rfl)) (by kernel_rfl)) (by kernel_rfl)) (by kernel_rfl)) (by kernel_rfl)) (by kernel_rfl)) (by kernel_rfl)) (by kernel_rfl)) (by kernel_rfl)) (by kernel_rfl)) (by kernel_rfl)) (by kernel_rfl)) (by kernel_rfl)) (by kernel_rfl)) (by kernel_rfl)) (by kernel_rfl)) (by kernel_rfl)) (by kernel_rfl)) headMay) headLifts) headMake) (by kernel_rfl)) (by kernel_rfl)) (by kernel_rfl)) (by kernel_rfl))
theorem closed2 : Tryd.f5.isInstance Tryd.pinned.checked.prog Rows.jourBoundsRow.origin Rows.jourBoundsRow.targs := of_decide_eq_true (by kernel_rfl)
theorem closed0 : decide (Check.packageOf Tryd.f5.name = "main") = false := by kernel_rfl
theorem closed3 : Tryd.f5.isWrapper Tryd.pinned.checked.prog Rows.jourBoundsRow.wrapper Rows.jourBoundsRow.mainSum := by
  unfold Func.isWrapper; rw [if_neg (of_decide_eq_false closed0)]; exact ⟨rfl, rfl⟩
theorem closed4 (os : Os) (started : os.Started) (H : Type) (enc : TypeId × Value → H) :
    ReturnsInHanded Rows.jourBoundsRow.assume Tryd.pinned.checked os 5 .any (Rows.jourBoundsRow.pre enc Tryd.pinned.checked.prog Tryd.f5 (OpenSpec.ofChange Rows.jourBoundsSpec)) (Rows.jourBoundsSpec.post enc Tryd.pinned.checked.prog Tryd.f5 Rows.jourBoundsRow.apart Rows.jourBoundsRow.fresh Rows.jourBoundsRow.handsOn Rows.jourBoundsRow.again) := lifted os started H enc
theorem closed5 : Tryd.pinned.checked.prog.funcNamed Rows.jourBoundsRow.func = some 5 := by kernel_rfl
theorem over : Rows.jourBoundsRow.holds Tryd.pinned (OpenSpec.ofChange Rows.jourBoundsSpec) :=
  OpenClaim.holds_of_wide 5 Tryd.f5 rfl rfl rfl rfl rfl rfl rfl ⟨rfl, rfl, rfl, rfl, rfl⟩ rfl rfl rfl rfl rfl closed5 Tryd.func5 closed1 closed2 closed3
    (fun os started H enc _ => closed4 os started H enc)

theorem card_wf : Rows.jourBoundsRow.wfByText (OpenSpec.ofChange Rows.jourBoundsSpec) = true := by kernel_rfl
theorem card_main : Tryd.pinned.checked.prog.mainIs = some ((true, "036d17608c80a2014779488a53755299142effb1c608ce6538a9191886ad1a5c").1, ((true, "036d17608c80a2014779488a53755299142effb1c608ce6538a9191886ad1a5c").2 : String).toList) := by kernel_rfl
theorem card_looks : true = Tryd.pinned.checked.prog.looks [] := by kernel_rfl
theorem card_goes : false = Rows.jourBoundsRow.goesBy Tryd.pinned.checked.prog := by kernel_rfl
theorem card_named : Tryd.prog.funcNamed "cordwood/cordwoodlaw20.JourBounds" = some 5 := by kernel_rfl
theorem card_stand : ([3].all fun u => !Tryd.prog.wantsStandIn u) = true := by kernel_rfl
theorem card_params (t : TypeId) (j : Nat) (ht : Tryd.f5.params[j]? = some t) : Tryd.pinned.checked.prog.wantsStandIn t = false := by
  rw [Tryd.params5] at ht
  have hm : t ∈ [3] := by
    have := Array.mem_of_getElem? ht
    first | (revert this; simp <;> omega) | (simp only [List.mem_toArray, List.mem_cons, List.not_mem_nil, or_false] at this ⊢; omega) | grind
  exact (show Tryd.prog.wantsStandIn t = false by simpa using List.all_eq_true.1 card_stand t hm)
theorem card_fn (f : FuncId) (fn : Func) (hf : Tryd.pinned.checked.prog.funcNamed Rows.jourBoundsRow.func = some f) (hfn : Tryd.pinned.checked.prog.funcs[f]? = some fn) :
    true = Tryd.pinned.checked.prog.looks [] ∧ ∀ (j : Nat) t, fn.params[j]? = some t → Tryd.pinned.checked.prog.wantsStandIn t = false := by
  obtain rfl : f = 5 := Option.some.inj (card_named.symm.trans hf) |>.symm
  obtain rfl : fn = Tryd.f5 := (Option.some.inj (Tryd.func5.symm.trans hfn)).symm
  exact ⟨card_looks, fun j t ht => card_params t j ht⟩
/-- The tied card. -/
theorem proved : Rows.JourBoundsCardSaid :=
  Claim7.holds_tied_plain_at .later [] [.sentinel, .sentinel, .sentinel, .sentinel, .sentinel, .sentinel, .sentinel, .sentinel, .sentinel, .sentinel, .sentinel, .sentinel, .sentinel, .sentinel, .sentinel, .sentinel, .sentinel, .sentinel, .sentinel] true (true, "036d17608c80a2014779488a53755299142effb1c608ce6538a9191886ad1a5c") true
    over (fun _ h => by cases h) card_wf (fun _ h => by cases h) jourBounds_row_tie rfl ⟨rfl, rfl⟩ card_main rfl card_fn card_goes
#print axioms proved
end Go.Proofs.YtmnfehbnjgmgjaaDoor.jourBounds
