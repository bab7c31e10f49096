/- The law PointNames: for every input its Go text returns true, and its arguments read as they did; where the sentinels that the row lists are laid as the program lays them. -/
import Derived.Test.YtmnfehbnjgmgjaaDoorRows
import Derived.Test.YtmnfehbnjgmgjaaDoorTie
import Derived.Test.YtmnfehbnjgmgjaaDoorCards
import Derived.Test.YtmnfehbnjgmgjaaDoorFacts
import Derived.Test.YtmnfehbnjgmgjaaDoorLaid
import Derived.Test.YtmnfehbnjgmgjaaDoorPz
import Derived.WalkKit
import Derived.ProofKit
import Derived.OpenShut
import Derived.ShutString
import Derived.ChangeOld
import Derived.Below
import Derived.SevenTiedAt
import Derived.LaidMore
import Derived.LaidHandle
import Derived.LaidLaws
namespace Go.Proofs.YtmnfehbnjgmgjaaDoor.pointNames
open Go.ChangeShapes Go.WideShapes Go.ChangeAt Go.RowKit
open Go.ChangeMaps (open_string shut_string)
set_option linter.unusedVariables false

theorem own : ownKnob Tryd.prog.godebug = none := by kernel_rfl
theorem laidOut : laidOutB Tryd.prog = true := by kernel_rfl

set_option maxRecDepth 100000 in
theorem walk (a0 : ByteArray) (a1 : Option Addr) (len1 cap1 : Nat) (z1 : List Int) (a2 : Int) (w : World) (w0 : a0.size ≤ maxLen) (w1 : IsRow .u8 w a1 len1 cap1 z1) (w2 : (Lit.int .i64 a2).wf = true) (b1 : ∀ b, blk (.slice a1 len1 cap1) = some b → b < w.heap.size) {ad : Nat → Addr} (hE : Errs allCodes ad w.heap.size w) :
    Calls Tryd.prog 8 #[.string a0, .slice a1 len1 cap1, .int .i64 a2] w fun e w' => e = .returned (.bool true) ∧ Below w.heap.size w w' := by
  exact law_of (pointNames_sl hE (Mem.start w) (Came.bytes w1.bytes b1).1 (Came.bytes w1.bytes b1).2)

theorem door_met (os : Os) (args : Array Value) : laidMetH Tryd.prog Rows.pointNamesRow.laid ((World.doorLaid Tryd.prog 370 os).forCall (fun _ _ => 0) ⟨#[], args, []⟩).memory :=
  laidMetH_of_parts3 (fuel := 8) (laidMet_of_run' 8 (by kernel_rfl) (by kernel_rfl)) (by kernel_rfl) (by kernel_rfl)

/-! ### THE ROW's STEP: WRITTEN OUT: LEAVE IT -/
set_option maxRecDepth 100000 in
theorem lifted (os : Os) (started : os.Started) (H : Type) (enc : TypeId × Value → H) :
    ReturnsInHanded {} Tryd.checked os 8 .any (fun w args => (Rows.pointNamesSpec.pre enc Tryd.prog Tryd.f8 [] false w args ∧ laidMetH Tryd.prog Rows.pointNamesRow.laid w) ∧ sizedMet enc Tryd.prog Tryd.f8 (OpenSpec.ofChange Rows.pointNamesSpec) false w args) (Rows.pointNamesSpec.post enc Tryd.prog Tryd.f8 false true false false) := by
  refine returnsInHanded_of_change_and (C := Tryd.checked) (X := fun w _ => laidMetH Tryd.prog Rows.pointNamesRow.laid w) (fun _ _ _ hh h => h.of_heap hh) own started (by kernel_rfl) Tryd.func8
    (ChangeSpec.witness_shaped (enc := enc) (C := Tryd.checked) (os := os) (X := fun w _ => laidMetH Tryd.prog Rows.pointNamesRow.laid w) false (World.doorLaid Tryd.prog 370 os) #[.string ByteArray.empty, .slice none 0 0, .int .i64 0] 8 rfl (World.shaped_of_RefB (by kernel_rfl) (by kernel_rfl)) (by kernel_rfl) (by kernel_rfl) (by kernel_rfl) (door_met os _)) ?_
  intro W base args ds gs before hval0 hW hcnd _ hL _
  have hval : ∀ (j : Nat) t v, Tryd.f8.params[j]? = some t → args[j]? = some v → Value.okWide Tryd.prog W .any base t v := hval0
  have hW' := hW
  obtain ⟨p, q, hA0, hV, rfl, hfz, hnd⟩ := hW
  have hA : DataW.TrodAll enc Tryd.prog W 0 (fun _ => true) true Tryd.f8.params.toList args.toList ds p := hA0
  rw [Tryd.params8] at hA hval
  obtain ⟨v0, vs0, d0, ds0, p0, q0, hargs, rfl, rfl, h0, r0⟩ := trodAll_cons hA
  obtain ⟨v1, vs1, d1, ds1, p1, q1, rfl, rfl, rfl, h1, r1⟩ := trodAll_cons r0
  obtain ⟨v2, vs2, d2, ds2, p2, q2, rfl, rfl, rfl, h2, r2⟩ := trodAll_cons r1
  obtain ⟨rfl, rfl, rfl⟩ := trodAll_nil r2
  obtain rfl : args = #[v0, v1, v2] := by cases args; simp_all
  obtain ⟨rfl, rfl⟩ := trodVars_none hV
  obtain ⟨a0, rfl, rfl, rfl, w0⟩ := open_string Tryd.underlying9 (hval 0 9 v0 rfl rfl) h0
  obtain ⟨a1, len1, cap1, rfl⟩ := okWide_slice Tryd.underlying23 (hval 1 23 v1 rfl rfl)
  have k1 := h1
  have lt1 : ∀ x ∈ p1, x.block < W.heap.size := by obtain ⟨m, hm⟩ := k1; exact DataW.trod_lt m _ _ _ hm
  obtain ⟨z1, w1⟩ : ∃ zs, IsRow .u8 W a1 len1 cap1 zs := by
    obtain ⟨fuel, hf⟩ := h1
    rcases open_ints Tryd.underlying23 Tryd.underlying5 (by kernel_rfl) hf with ⟨hcs, _⟩ | ⟨x, l, c, zs, hcs, _, hl, hm, hz, _, hcell, hwz⟩
    · simp [Value.cells] at hcs
      obtain ⟨rfl, rfl, rfl⟩ := hcs
      exact ⟨[], .inl ⟨rfl, rfl, rfl, rfl⟩⟩
    · simp [Value.cells] at hcs
      obtain ⟨rfl, rfl, rfl⟩ := hcs
      exact ⟨zs, .inr ⟨_, rfl, hl, hm, by simpa using hz, hcell, hwz⟩⟩
  obtain ⟨a2, rfl, rfl, rfl, w2⟩ := open_int Tryd.underlying3 (hval 2 3 v2 rfl rfl) h2
  clear hA0 hval0
  obtain ⟨ad, hE⟩ := errs_of_laid (L := allCodes) hL rfl (by decide) (by decide) (by decide)
  refine (walk a0 a1 len1 cap1 z1 a2 W w0 w1 w2 (blk_of_ok Tryd.underlying23 (hval 1 23 _ rfl rfl)) hE).mono fun e W' ⟨he, bel⟩ => ?_
  subst he
  exact ⟨_, rfl, _, _, _, [], _, [], hW', trodAll_mk1 (shut_bool Tryd.underlying4 _), (trodAll_cons_mk (shut_string Tryd.underlying9 w0) (trodAll_cons_mk (Below.trod laidOut (by kernel_rfl) (of_decide_eq_true (by kernel_rfl)) k1 bel lt1) (trodAll_cons_mk (shut_int Tryd.underlying3 w2) trodAll_mk0))), rfl, bel.frame _, fun h => by cases h⟩

theorem closed1 : joinedFacts Tryd.pinned.checked.prog 8 Tryd.f8 Rows.pointNamesSpec Rows.pointNamesRow = true :=
  (both_true (both_true (both_true (both_true (both_true (both_true (both_true (both_true (both_true (both_true (both_true (both_true (both_true (both_true (both_true (both_true (both_true (both_true (both_true (both_true (both_true (both_true (both_true (both_true (both_true (both_true (both_true (both_true (both_true (both_true (both_true (by kernel_rfl) (by kernel_rfl)) (by kernel_rfl)) (by kernel_rfl)) (by kernel_rfl)) (by kernel_rfl)) (by kernel_rfl)) (by kernel_rfl)) (by kernel_rfl)) (by kernel_rfl)) (by kernel_rfl)) (by kernel_rfl)) (by kernel_rfl)) (by kernel_rfl)) (by kernel_rfl)) (by kernel_rfl)) (by kernel_rfl)) (by kernel_rfl)) (by kernel_rfl)) (by kernel_rfl)) (by kernel_rfl)) (by kernel_rfl)) (by kernel_rfl)) (by kernel_rfl)) (by kernel_rfl)) headMay) headLifts) headMake) (by kernel_rfl)) (by kernel_rfl)) (by kernel_rfl)) (by kernel_rfl))
theorem closed2 : Tryd.f8.isInstance Tryd.pinned.checked.prog Rows.pointNamesRow.origin Rows.pointNamesRow.targs := of_decide_eq_true (by kernel_rfl)
theorem closed0 : decide (Check.packageOf Tryd.f8.name = "main") = false := by kernel_rfl
theorem closed3 : Tryd.f8.isWrapper Tryd.pinned.checked.prog Rows.pointNamesRow.wrapper Rows.pointNamesRow.mainSum := by
  unfold Func.isWrapper; rw [if_neg (of_decide_eq_false closed0)]; exact ⟨rfl, rfl⟩
theorem closed4 (os : Os) (started : os.Started) (H : Type) (enc : TypeId × Value → H) :
    ReturnsInHanded Rows.pointNamesRow.assume Tryd.pinned.checked os 8 .any (Rows.pointNamesRow.pre enc Tryd.pinned.checked.prog Tryd.f8 (OpenSpec.ofChange Rows.pointNamesSpec)) (Rows.pointNamesSpec.post enc Tryd.pinned.checked.prog Tryd.f8 Rows.pointNamesRow.apart Rows.pointNamesRow.fresh Rows.pointNamesRow.handsOn Rows.pointNamesRow.again) := lifted os started H enc
theorem closed5 : Tryd.pinned.checked.prog.funcNamed Rows.pointNamesRow.func = some 8 := by kernel_rfl
theorem over : Rows.pointNamesRow.holds Tryd.pinned (OpenSpec.ofChange Rows.pointNamesSpec) :=
  OpenClaim.holds_of_wide 8 Tryd.f8 rfl rfl rfl rfl rfl rfl rfl ⟨rfl, rfl, rfl, rfl, rfl⟩ rfl rfl rfl rfl rfl closed5 Tryd.func8 closed1 closed2 closed3
    (fun os started H enc _ => closed4 os started H enc)

theorem card_wf : Rows.pointNamesRow.wfByText (OpenSpec.ofChange Rows.pointNamesSpec) = true := by kernel_rfl
theorem card_main : Tryd.pinned.checked.prog.mainIs = some ((true, "036d17608c80a2014779488a53755299142effb1c608ce6538a9191886ad1a5c").1, ((true, "036d17608c80a2014779488a53755299142effb1c608ce6538a9191886ad1a5c").2 : String).toList) := by kernel_rfl
theorem card_looks : true = Tryd.pinned.checked.prog.looks [] := by kernel_rfl
theorem card_goes : false = Rows.pointNamesRow.goesBy Tryd.pinned.checked.prog := by kernel_rfl
theorem card_named : Tryd.prog.funcNamed "cordwood/cordwoodlaw8.PointNames" = some 8 := by kernel_rfl
theorem card_stand : ([3, 9, 23].all fun u => !Tryd.prog.wantsStandIn u) = true := by kernel_rfl
theorem card_params (t : TypeId) (j : Nat) (ht : Tryd.f8.params[j]? = some t) : Tryd.pinned.checked.prog.wantsStandIn t = false := by
  rw [Tryd.params8] at ht
  have hm : t ∈ [3, 9, 23] := by
    have := Array.mem_of_getElem? ht
    first | (revert this; simp <;> omega) | (simp only [List.mem_toArray, List.mem_cons, List.not_mem_nil, or_false] at this ⊢; omega) | grind
  exact (show Tryd.prog.wantsStandIn t = false by simpa using List.all_eq_true.1 card_stand t hm)
theorem card_fn (f : FuncId) (fn : Func) (hf : Tryd.pinned.checked.prog.funcNamed Rows.pointNamesRow.func = some f) (hfn : Tryd.pinned.checked.prog.funcs[f]? = some fn) :
    true = Tryd.pinned.checked.prog.looks [] ∧ ∀ (j : Nat) t, fn.params[j]? = some t → Tryd.pinned.checked.prog.wantsStandIn t = false := by
  obtain rfl : f = 8 := Option.some.inj (card_named.symm.trans hf) |>.symm
  obtain rfl : fn = Tryd.f8 := (Option.some.inj (Tryd.func8.symm.trans hfn)).symm
  exact ⟨card_looks, fun j t ht => card_params t j ht⟩
/-- The tied card. -/
theorem proved : Rows.PointNamesCardSaid :=
  Claim7.holds_tied_plain_at .later [] [.sentinel, .sentinel, .sentinel, .sentinel, .sentinel, .sentinel, .sentinel, .sentinel, .sentinel, .sentinel, .sentinel, .sentinel, .sentinel, .sentinel, .sentinel, .sentinel, .sentinel, .sentinel, .sentinel] true (true, "036d17608c80a2014779488a53755299142effb1c608ce6538a9191886ad1a5c") true
    over (fun _ h => by cases h) card_wf (fun _ h => by cases h) pointNames_row_tie rfl ⟨rfl, rfl⟩ card_main rfl card_fn card_goes
#print axioms proved
end Go.Proofs.YtmnfehbnjgmgjaaDoor.pointNames
