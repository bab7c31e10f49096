/- The law StoreApart: for every input its Go text returns true, and its arguments read as they did; where the sentinels that the row lists are laid as the program lays them. -/
import Derived.Test.YtjiigajekminaaaDoorRows
import Derived.Test.YtjiigajekminaaaDoorTie
import Derived.Test.YtjiigajekminaaaDoorCards
import Derived.Test.YtjiigajekminaaaDoorFacts
import Derived.Test.YtjiigajekminaaaDoorLaid
import Derived.Test.YtjiigajekminaaaDoorSA2
import Derived.WalkKit
import Derived.ProofKit
import Derived.OpenShut
import Derived.ShutString
import Derived.ChangeOld
import Derived.Below
import Derived.SevenTiedAt
import Derived.LaidMore
import Derived.LaidHandle
import Derived.LaidLaws
namespace Go.Proofs.YtjiigajekminaaaDoor.storeApart
open Go.ChangeShapes Go.WideShapes Go.ChangeAt Go.RowKit
open Go.ChangeMaps (open_string shut_string)
set_option linter.unusedVariables false

theorem own : ownKnob Tryd.prog.godebug = none := by kernel_rfl
theorem laidOut : laidOutB Tryd.prog = true := by kernel_rfl

set_option maxRecDepth 100000 in
theorem walk (a0 : Int) (a1 : Int) (a2 : Option Addr) (len2 cap2 : Nat) (z2 : List Int) (a3 : Option Addr) (len3 cap3 : Nat) (z3 : List Int) (w : World) (w0 : (Lit.int .i64 a0).wf = true) (w1 : (Lit.int .i64 a1).wf = true) (w2 : IsRow .u8 w a2 len2 cap2 z2) (w3 : IsRow .u8 w a3 len3 cap3 z3) (b2 : ∀ b, blk (.slice a2 len2 cap2) = some b → b < w.heap.size) (b3 : ∀ b, blk (.slice a3 len3 cap3) = some b → b < w.heap.size) {ad : Nat → Addr} (hE : Errs allCodes ad w.heap.size w) :
    Calls Tryd.prog 14 #[.int .i64 a0, .int .i64 a1, .slice a2 len2 cap2, .slice a3 len3 cap3] w fun e w' => e = .returned (.bool true) ∧ Below w.heap.size w w' := by
  exact law_of (storeApart_sl hE (Mem.start w) (Came.bytes w2.bytes b2).1 (Came.bytes w3.bytes b3).1 (Came.bytes w2.bytes b2).2 (Came.bytes w3.bytes b3).2)

theorem door_met (os : Os) (args : Array Value) : laidMetH Tryd.prog Rows.storeApartRow.laid ((World.doorLaid Tryd.prog 370 os).forCall (fun _ _ => 0) ⟨#[], args, []⟩).memory :=
  laidMetH_of_parts3 (fuel := 8) (laidMet_of_run' 8 (by kernel_rfl) (by kernel_rfl)) (by kernel_rfl) (by kernel_rfl)

/-! ### THE ROW's STEP: WRITTEN OUT: LEAVE IT -/
set_option maxRecDepth 100000 in
theorem lifted (os : Os) (started : os.Started) (H : Type) (enc : TypeId × Value → H) :
    ReturnsInHanded {} Tryd.checked os 14 .any (fun w args => (Rows.storeApartSpec.pre enc Tryd.prog Tryd.f14 [] false w args ∧ laidMetH Tryd.prog Rows.storeApartRow.laid w) ∧ sizedMet enc Tryd.prog Tryd.f14 (OpenSpec.ofChange Rows.storeApartSpec) false w args) (Rows.storeApartSpec.post enc Tryd.prog Tryd.f14 false true false false) := by
  refine returnsInHanded_of_change_and (C := Tryd.checked) (X := fun w _ => laidMetH Tryd.prog Rows.storeApartRow.laid w) (fun _ _ _ hh h => h.of_heap hh) own started (by kernel_rfl) Tryd.func14
    (ChangeSpec.witness_shaped (enc := enc) (C := Tryd.checked) (os := os) (X := fun w _ => laidMetH Tryd.prog Rows.storeApartRow.laid w) false (World.doorLaid Tryd.prog 370 os) #[.int .i64 0, .int .i64 0, .slice none 0 0, .slice none 0 0] 8 rfl (World.shaped_of_RefB (by kernel_rfl) (by kernel_rfl)) (by kernel_rfl) (by kernel_rfl) (by kernel_rfl) (door_met os _)) ?_
  intro W base args ds gs before hval0 hW hcnd _ hL _
  have hval : ∀ (j : Nat) t v, Tryd.f14.params[j]? = some t → args[j]? = some v → Value.okWide Tryd.prog W .any base t v := hval0
  have hW' := hW
  obtain ⟨p, q, hA0, hV, rfl, hfz, hnd⟩ := hW
  have hA : DataW.TrodAll enc Tryd.prog W 0 (fun _ => true) true Tryd.f14.params.toList args.toList ds p := hA0
  rw [Tryd.params14] at hA hval
  obtain ⟨v0, vs0, d0, ds0, p0, q0, hargs, rfl, rfl, h0, r0⟩ := trodAll_cons hA
  obtain ⟨v1, vs1, d1, ds1, p1, q1, rfl, rfl, rfl, h1, r1⟩ := trodAll_cons r0
  obtain ⟨v2, vs2, d2, ds2, p2, q2, rfl, rfl, rfl, h2, r2⟩ := trodAll_cons r1
  obtain ⟨v3, vs3, d3, ds3, p3, q3, rfl, rfl, rfl, h3, r3⟩ := trodAll_cons r2
  obtain ⟨rfl, rfl, rfl⟩ := trodAll_nil r3
  obtain rfl : args = #[v0, v1, v2, v3] := by cases args; simp_all
  obtain ⟨rfl, rfl⟩ := trodVars_none hV
  obtain ⟨a0, rfl, rfl, rfl, w0⟩ := open_int Tryd.underlying3 (hval 0 3 v0 rfl rfl) h0
  obtain ⟨a1, rfl, rfl, rfl, w1⟩ := open_int Tryd.underlying3 (hval 1 3 v1 rfl rfl) h1
  obtain ⟨a2, len2, cap2, rfl⟩ := okWide_slice Tryd.underlying27 (hval 2 27 v2 rfl rfl)
  have k2 := h2
  have lt2 : ∀ x ∈ p2, x.block < W.heap.size := by obtain ⟨m, hm⟩ := k2; exact DataW.trod_lt m _ _ _ hm
  obtain ⟨z2, w2⟩ : ∃ zs, IsRow .u8 W a2 len2 cap2 zs := by
    obtain ⟨fuel, hf⟩ := h2
    rcases open_ints Tryd.underlying27 Tryd.underlying5 (by kernel_rfl) hf with ⟨hcs, _⟩ | ⟨x, l, c, zs, hcs, _, hl, hm, hz, _, hcell, hwz⟩
    · simp [Value.cells] at hcs
      obtain ⟨rfl, rfl, rfl⟩ := hcs
      exact ⟨[], .inl ⟨rfl, rfl, rfl, rfl⟩⟩
    · simp [Value.cells] at hcs
      obtain ⟨rfl, rfl, rfl⟩ := hcs
      exact ⟨zs, .inr ⟨_, rfl, hl, hm, by simpa using hz, hcell, hwz⟩⟩
  obtain ⟨a3, len3, cap3, rfl⟩ := okWide_slice Tryd.underlying27 (hval 3 27 v3 rfl rfl)
  have k3 := h3
  have lt3 : ∀ x ∈ p3, x.block < W.heap.size := by obtain ⟨m, hm⟩ := k3; exact DataW.trod_lt m _ _ _ hm
  obtain ⟨z3, w3⟩ : ∃ zs, IsRow .u8 W a3 len3 cap3 zs := by
    obtain ⟨fuel, hf⟩ := h3
    rcases open_ints Tryd.underlying27 Tryd.underlying5 (by kernel_rfl) hf with ⟨hcs, _⟩ | ⟨x, l, c, zs, hcs, _, hl, hm, hz, _, hcell, hwz⟩
    · simp [Value.cells] at hcs
      obtain ⟨rfl, rfl, rfl⟩ := hcs
      exact ⟨[], .inl ⟨rfl, rfl, rfl, rfl⟩⟩
    · simp [Value.cells] at hcs
      obtain ⟨rfl, rfl, rfl⟩ := hcs
      exact ⟨zs, .inr ⟨_, rfl, hl, hm, by simpa using hz, hcell, hwz⟩⟩
  clear hA0 hval0
  obtain ⟨ad, hE⟩ := errs_of_laid (L := allCodes) hL rfl (by decide) (by decide) (by decide)
  refine (walk a0 a1 a2 len2 cap2 z2 a3 len3 cap3 z3 W w0 w1 w2 w3 (blk_of_ok Tryd.underlying27 (hval 2 27 _ rfl rfl)) (blk_of_ok Tryd.underlying27 (hval 3 27 _ rfl rfl)) hE).mono fun e W' ⟨he, bel⟩ => ?_
  subst he
  exact ⟨_, rfl, _, _, _, [], _, [], hW', trodAll_mk1 (shut_bool Tryd.underlying4 _), (trodAll_cons_mk (shut_int Tryd.underlying3 w0) (trodAll_cons_mk (shut_int Tryd.underlying3 w1) (trodAll_cons_mk (Below.trod laidOut (by kernel_rfl) (of_decide_eq_true (by kernel_rfl)) k2 bel lt2) (trodAll_cons_mk (Below.trod laidOut (by kernel_rfl) (of_decide_eq_true (by kernel_rfl)) k3 bel lt3) trodAll_mk0)))), rfl, bel.frame _, fun h => by cases h⟩

theorem closed1 : joinedFacts Tryd.pinned.checked.prog 14 Tryd.f14 Rows.storeApartSpec Rows.storeApartRow = true :=
  (both_true (both_true (both_true (both_true (both_true (both_true (both_true (both_true (both_true (both_true (both_true (both_true (both_true (both_true (both_true (both_true (both_true (both_true (both_true (both_true (both_true (both_true (both_true (both_true (both_true (both_true (both_true (both_true (both_true (both_true (both_true (by kernel_rfl) (by kernel_rfl)) (by kernel_rfl)) (by kernel_rfl)) (by kernel_rfl)) (by kernel_rfl)) (by kernel_rfl)) (by kernel_rfl)) (by kernel_rfl)) (by kernel_rfl)) (by kernel_rfl)) (by kernel_rfl)) (by kernel_rfl)) (by kernel_rfl)) (by kernel_rfl)) (by kernel_rfl)) (by kernel_rfl)) (by kernel_rfl)) (by kernel_rfl)) (by kernel_rfl)) (by kernel_rfl)) (by kernel_rfl)) (by kernel_rfl)) (by kernel_rfl)) (by kernel_rfl)) headMay) headLifts) headMake) (by kernel_rfl)) (by kernel_rfl)) (by kernel_rfl)) (by kernel_rfl))
theorem closed2 : Tryd.f14.isInstance Tryd.pinned.checked.prog Rows.storeApartRow.origin Rows.storeApartRow.targs := of_decide_eq_true (by kernel_rfl)
theorem closed0 : decide (Check.packageOf Tryd.f14.name = "main") = false := by kernel_rfl
theorem closed3 : Tryd.f14.isWrapper Tryd.pinned.checked.prog Rows.storeApartRow.wrapper Rows.storeApartRow.mainSum := by
  unfold Func.isWrapper; rw [if_neg (of_decide_eq_false closed0)]; exact ⟨rfl, rfl⟩
theorem closed4 (os : Os) (started : os.Started) (H : Type) (enc : TypeId × Value → H) :
    ReturnsInHanded Rows.storeApartRow.assume Tryd.pinned.checked os 14 .any (Rows.storeApartRow.pre enc Tryd.pinned.checked.prog Tryd.f14 (OpenSpec.ofChange Rows.storeApartSpec)) (Rows.storeApartSpec.post enc Tryd.pinned.checked.prog Tryd.f14 Rows.storeApartRow.apart Rows.storeApartRow.fresh Rows.storeApartRow.handsOn Rows.storeApartRow.again) := lifted os started H enc
theorem closed5 : Tryd.pinned.checked.prog.funcNamed Rows.storeApartRow.func = some 14 := by kernel_rfl
theorem over : Rows.storeApartRow.holds Tryd.pinned (OpenSpec.ofChange Rows.storeApartSpec) :=
  OpenClaim.holds_of_wide 14 Tryd.f14 rfl rfl rfl rfl rfl rfl rfl ⟨rfl, rfl, rfl, rfl, rfl⟩ rfl rfl rfl rfl rfl closed5 Tryd.func14 closed1 closed2 closed3
    (fun os started H enc _ => closed4 os started H enc)

theorem card_wf : Rows.storeApartRow.wfByText (OpenSpec.ofChange Rows.storeApartSpec) = true := by kernel_rfl
theorem card_main : Tryd.pinned.checked.prog.mainIs = some ((true, "65378acf01929d5226a3ae1c18d8771b67662247420b1a4b7dc8011e8dce4633").1, ((true, "65378acf01929d5226a3ae1c18d8771b67662247420b1a4b7dc8011e8dce4633").2 : String).toList) := by kernel_rfl
theorem card_looks : true = Tryd.pinned.checked.prog.looks [] := by kernel_rfl
theorem card_goes : false = Rows.storeApartRow.goesBy Tryd.pinned.checked.prog := by kernel_rfl
theorem card_named : Tryd.prog.funcNamed "cordwood/cordwoodlaw11.StoreApart" = some 14 := by kernel_rfl
theorem card_stand : ([3, 27].all fun u => !Tryd.prog.wantsStandIn u) = true := by kernel_rfl
theorem card_params (t : TypeId) (j : Nat) (ht : Tryd.f14.params[j]? = some t) : Tryd.pinned.checked.prog.wantsStandIn t = false := by
  rw [Tryd.params14] at ht
  have hm : t ∈ [3, 27] := by
    have := Array.mem_of_getElem? ht
    first | (revert this; simp <;> omega) | (simp only [List.mem_toArray, List.mem_cons, List.not_mem_nil, or_false] at this ⊢; omega) | grind
  exact (show Tryd.prog.wantsStandIn t = false by simpa using List.all_eq_true.1 card_stand t hm)
theorem card_fn (f : FuncId) (fn : Func) (hf : Tryd.pinned.checked.prog.funcNamed Rows.storeApartRow.func = some f) (hfn : Tryd.pinned.checked.prog.funcs[f]? = some fn) :
    true = Tryd.pinned.checked.prog.looks [] ∧ ∀ (j : Nat) t, fn.params[j]? = some t → Tryd.pinned.checked.prog.wantsStandIn t = false := by
  obtain rfl : f = 14 := Option.some.inj (card_named.symm.trans hf) |>.symm
  obtain rfl : fn = Tryd.f14 := (Option.some.inj (Tryd.func14.symm.trans hfn)).symm
  exact ⟨card_looks, fun j t ht => card_params t j ht⟩
/-- The tied card. -/
theorem proved : Rows.StoreApartCardSaid :=
  Claim7.holds_tied_plain_at .later [] [.sentinel, .sentinel, .sentinel, .sentinel, .sentinel, .sentinel, .sentinel, .sentinel, .sentinel, .sentinel, .sentinel, .sentinel, .sentinel, .sentinel, .sentinel, .sentinel, .sentinel, .sentinel, .sentinel] true (true, "65378acf01929d5226a3ae1c18d8771b67662247420b1a4b7dc8011e8dce4633") true
    over (fun _ h => by cases h) card_wf (fun _ h => by cases h) storeApart_row_tie rfl ⟨rfl, rfl⟩ card_main rfl card_fn card_goes
#print axioms proved
end Go.Proofs.YtjiigajekminaaaDoor.storeApart
