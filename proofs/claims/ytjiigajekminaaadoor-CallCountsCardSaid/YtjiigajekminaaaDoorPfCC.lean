/- The law CallCounts: for every input its Go text returns true, and its arguments read as they did; where the sentinels that the row lists are laid as the program lays them. -/
import Derived.Test.YtjiigajekminaaaDoorRows
import Derived.Test.YtjiigajekminaaaDoorTie
import Derived.Test.YtjiigajekminaaaDoorCards
import Derived.Test.YtjiigajekminaaaDoorFacts
import Derived.Test.YtjiigajekminaaaDoorLaid
import Derived.Test.YtjiigajekminaaaDoorLawCC
import Derived.WalkKit
import Derived.ProofKit
import Derived.OpenShut
import Derived.ShutString
import Derived.ChangeOld
import Derived.Below
import Derived.SevenTiedAt
import Derived.LaidMore
import Derived.LaidHandle
import Derived.LaidLaws
namespace Go.Proofs.YtjiigajekminaaaDoor.callCounts
open Go.ChangeShapes Go.WideShapes Go.ChangeAt Go.RowKit
open Go.ChangeMaps (open_string shut_string)
set_option linter.unusedVariables false

theorem own : ownKnob Tryd.prog.godebug = none := by kernel_rfl
theorem laidOut : laidOutB Tryd.prog = true := by kernel_rfl

set_option maxRecDepth 100000 in
theorem walk (a0 : Int) (a1 : Option Addr) (len1 cap1 : Nat) (z1 : List Int) (w : World) (w0 : (Lit.int .i64 a0).wf = true) (w1 : IsRow .i64 w a1 len1 cap1 z1) (b1 : ∀ b, blk (.slice a1 len1 cap1) = some b → b < w.heap.size) {ad : Nat → Addr} (hE : Errs [105, 106, 111] ad w.heap.size w) :
    Calls Tryd.prog 5 #[.int .i64 a0, .slice a1 len1 cap1] w fun e w' => e = .returned (.bool true) ∧ Below w.heap.size w w' := by
  exact callCounts_walk hE (by decide) (by decide) w1.ints b1 a0

theorem door_met (os : Os) (args : Array Value) : laidMetH Tryd.prog Rows.callCountsRow.laid ((World.doorLaid Tryd.prog 370 os).forCall (fun _ _ => 0) ⟨#[], args, []⟩).memory :=
  laidMetH_of_parts3 (fuel := 8) (laidMet_of_run' 8 (by kernel_rfl) (by kernel_rfl)) (by kernel_rfl) (by kernel_rfl)

/-! ### THE ROW's STEP: WRITTEN OUT: LEAVE IT -/
set_option maxRecDepth 100000 in
theorem lifted (os : Os) (started : os.Started) (H : Type) (enc : TypeId × Value → H) :
    ReturnsInHanded {} Tryd.checked os 5 .any (fun w args => (Rows.callCountsSpec.pre enc Tryd.prog Tryd.f5 [] false w args ∧ laidMetH Tryd.prog Rows.callCountsRow.laid w) ∧ sizedMet enc Tryd.prog Tryd.f5 (OpenSpec.ofChange Rows.callCountsSpec) false w args) (Rows.callCountsSpec.post enc Tryd.prog Tryd.f5 false true false false) := by
  refine returnsInHanded_of_change_and (C := Tryd.checked) (X := fun w _ => laidMetH Tryd.prog Rows.callCountsRow.laid w) (fun _ _ _ hh h => h.of_heap hh) own started (by kernel_rfl) Tryd.func5
    (ChangeSpec.witness_shaped (enc := enc) (C := Tryd.checked) (os := os) (X := fun w _ => laidMetH Tryd.prog Rows.callCountsRow.laid w) false (World.doorLaid Tryd.prog 370 os) #[.int .i64 0, .slice none 0 0] 8 rfl (World.shaped_of_RefB (by kernel_rfl) (by kernel_rfl)) (by kernel_rfl) (by kernel_rfl) (by kernel_rfl) (door_met os _)) ?_
  intro W base args ds gs before hval0 hW hcnd _ hL _
  have hval : ∀ (j : Nat) t v, Tryd.f5.params[j]? = some t → args[j]? = some v → Value.okWide Tryd.prog W .any base t v := hval0
  have hW' := hW
  obtain ⟨p, q, hA0, hV, rfl, hfz, hnd⟩ := hW
  have hA : DataW.TrodAll enc Tryd.prog W 0 (fun _ => true) true Tryd.f5.params.toList args.toList ds p := hA0
  rw [Tryd.params5] at hA hval
  obtain ⟨v0, vs0, d0, ds0, p0, q0, hargs, rfl, rfl, h0, r0⟩ := trodAll_cons hA
  obtain ⟨v1, vs1, d1, ds1, p1, q1, rfl, rfl, rfl, h1, r1⟩ := trodAll_cons r0
  obtain ⟨rfl, rfl, rfl⟩ := trodAll_nil r1
  obtain rfl : args = #[v0, v1] := by cases args; simp_all
  obtain ⟨rfl, rfl⟩ := trodVars_none hV
  obtain ⟨a0, rfl, rfl, rfl, w0⟩ := open_int Tryd.underlying3 (hval 0 3 v0 rfl rfl) h0
  obtain ⟨a1, len1, cap1, rfl⟩ := okWide_slice Tryd.underlying22 (hval 1 22 v1 rfl rfl)
  have k1 := h1
  have lt1 : ∀ x ∈ p1, x.block < W.heap.size := by obtain ⟨m, hm⟩ := k1; exact DataW.trod_lt m _ _ _ hm
  obtain ⟨z1, w1⟩ : ∃ zs, IsRow .i64 W a1 len1 cap1 zs := by
    obtain ⟨fuel, hf⟩ := h1
    rcases open_ints Tryd.underlying22 Tryd.underlying3 (by kernel_rfl) hf with ⟨hcs, _⟩ | ⟨x, l, c, zs, hcs, _, hl, hm, hz, _, hcell, hwz⟩
    · simp [Value.cells] at hcs
      obtain ⟨rfl, rfl, rfl⟩ := hcs
      exact ⟨[], .inl ⟨rfl, rfl, rfl, rfl⟩⟩
    · simp [Value.cells] at hcs
      obtain ⟨rfl, rfl, rfl⟩ := hcs
      exact ⟨zs, .inr ⟨_, rfl, hl, hm, by simpa using hz, hcell, hwz⟩⟩
  clear hA0 hval0
  obtain ⟨ad, hE⟩ := errs_of_laid (L := [105, 106, 111]) hL rfl (by decide) (by decide) (by decide)
  refine (walk a0 a1 len1 cap1 z1 W w0 w1 (blk_of_ok Tryd.underlying22 (hval 1 22 _ rfl rfl)) hE).mono fun e W' ⟨he, bel⟩ => ?_
  subst he
  exact ⟨_, rfl, _, _, _, [], _, [], hW', trodAll_mk1 (shut_bool Tryd.underlying4 _), (trodAll_cons_mk (shut_int Tryd.underlying3 w0) (trodAll_cons_mk (Below.trod laidOut (by kernel_rfl) (of_decide_eq_true (by kernel_rfl)) k1 bel lt1) trodAll_mk0)), rfl, bel.frame _, fun h => by cases h⟩

theorem closed1 : joinedFacts Tryd.pinned.checked.prog 5 Tryd.f5 Rows.callCountsSpec Rows.callCountsRow = true :=
  (both_true (both_true (both_true (both_true (both_true (both_true (both_true (both_true (both_true (both_true (both_true (both_true (both_true (both_true (both_true (both_true (both_true (both_true (both_true (both_true (both_true (both_true (both_true (both_true (both_true (both_true (both_true (both_true (both_true (both_true (both_true (by kernel_rfl) (by kernel_rfl)) (by kernel_rfl)) (by kernel_rfl)) (by kernel_rfl)) (by kernel_rfl)) (by kernel_rfl)) (by kernel_rfl)) (by kernel_rfl)) (by kernel_rfl)) (by kernel_rfl)) (by kernel_rfl)) (by kernel_rfl)) (by kernel_rfl)) (by kernel_rfl)) (by kernel_rfl)) (by kernel_rfl)) (by kernel_rfl)) (by kernel_rfl)) (by kernel_rfl)) (by kernel_rfl)) (by kernel_rfl)) (by kernel_rfl)) (by kernel_rfl)) (by kernel_rfl)) headMay) headLifts) headMake) (by kernel_rfl)) (by kernel_rfl)) (by kernel_rfl)) (by kernel_rfl))
theorem closed2 : Tryd.f5.isInstance Tryd.pinned.checked.prog Rows.callCountsRow.origin Rows.callCountsRow.targs := of_decide_eq_true (by kernel_rfl)
theorem closed0 : decide (Check.packageOf Tryd.f5.name = "main") = false := by kernel_rfl
theorem closed3 : Tryd.f5.isWrapper Tryd.pinned.checked.prog Rows.callCountsRow.wrapper Rows.callCountsRow.mainSum := by
  unfold Func.isWrapper; rw [if_neg (of_decide_eq_false closed0)]; exact ⟨rfl, rfl⟩
theorem closed4 (os : Os) (started : os.Started) (H : Type) (enc : TypeId × Value → H) :
    ReturnsInHanded Rows.callCountsRow.assume Tryd.pinned.checked os 5 .any (Rows.callCountsRow.pre enc Tryd.pinned.checked.prog Tryd.f5 (OpenSpec.ofChange Rows.callCountsSpec)) (Rows.callCountsSpec.post enc Tryd.pinned.checked.prog Tryd.f5 Rows.callCountsRow.apart Rows.callCountsRow.fresh Rows.callCountsRow.handsOn Rows.callCountsRow.again) := lifted os started H enc
theorem closed5 : Tryd.pinned.checked.prog.funcNamed Rows.callCountsRow.func = some 5 := by kernel_rfl
theorem over : Rows.callCountsRow.holds Tryd.pinned (OpenSpec.ofChange Rows.callCountsSpec) :=
  OpenClaim.holds_of_wide 5 Tryd.f5 rfl rfl rfl rfl rfl rfl rfl ⟨rfl, rfl, rfl, rfl, rfl⟩ rfl rfl rfl rfl rfl closed5 Tryd.func5 closed1 closed2 closed3
    (fun os started H enc _ => closed4 os started H enc)

/-- The tied card. -/
theorem proved : Rows.CallCountsCardSaid :=
  Claim7.holds_tied_plain_at .later [] [.sentinel, .sentinel, .sentinel] true (true, "65378acf01929d5226a3ae1c18d8771b67662247420b1a4b7dc8011e8dce4633") true
    over (fun _ h => by cases h) (by kernel_rfl) (fun _ h => by cases h) callCounts_row_tie rfl ⟨rfl, rfl⟩ (by kernel_rfl) rfl
    (fun f fn hf hfn => by
      obtain rfl : f = 5 := Option.some.inj ((show Tryd.prog.funcNamed "cordwood/cordwoodlaw12.CallCounts" = some 5 by kernel_rfl).symm.trans hf) |>.symm
      obtain rfl : fn = Tryd.f5 := (Option.some.inj (Tryd.func5.symm.trans hfn)).symm
      exact ⟨by kernel_rfl, fun j t ht => by
        rw [Tryd.params5] at ht
        have hm : t ∈ [3, 22] := by
          have := Array.mem_of_getElem? ht
          revert this; simp <;> omega
        have hall : ([3, 22].all fun u => !Tryd.prog.wantsStandIn u) = true := by kernel_rfl
        exact (show Tryd.prog.wantsStandIn t = false by simpa using List.all_eq_true.1 hall t hm)⟩)
    (by kernel_rfl)
#print axioms proved
end Go.Proofs.YtjiigajekminaaaDoor.callCounts
