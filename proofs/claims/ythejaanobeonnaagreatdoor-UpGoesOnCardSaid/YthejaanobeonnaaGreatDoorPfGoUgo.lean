/- The law UpGoesOn: for every input its Go text returns true, and its arguments read as they did; where the sentinels that the row lists are laid as the program lays them. -/
import Derived.Test.YthejaanobeonnaaGreatDoorRows
import Derived.Test.YthejaanobeonnaaGreatDoorTie
import Derived.Test.YthejaanobeonnaaGreatDoorCards
import Derived.Test.YthejaanobeonnaaGreatDoorGo8
import Derived.Test.YthejaanobeonnaaGreatDoorGo8
import Derived.Test.YthejaanobeonnaaGreatDoorGoUgo
import Derived.Test.YthejaanobeonnaaGreatDoorGo8
import Derived.Test.YthejaanobeonnaaGreatDoorGo8
import Derived.WalkKit
import Derived.ProofKit
import Derived.OpenShut
import Derived.ShutString
import Derived.ChangeOld
import Derived.Below
import Derived.SevenTiedAt
import Derived.LaidMore
import Derived.LaidHandle
import Derived.LaidLaws
namespace Go.Proofs.YthejaanobeonnaaGreatDoor.upGoesOn
open Go.ChangeShapes Go.WideShapes Go.ChangeAt Go.RowKit
open Go.ChangeMaps (open_string shut_string)
set_option linter.unusedVariables false

theorem own : ownKnob Tryz.prog.godebug = none := by kernel_rfl
theorem laidOut : laidOutB Tryz.prog = true := by kernel_rfl

set_option maxRecDepth 100000 in
theorem walk (a0 : Option Addr) (len0 cap0 : Nat) (z0 : List Int) (a1 : Option Addr) (len1 cap1 : Nat) (z1 : List Int) (a2 : Int) (a3 : Option Addr) (len3 cap3 : Nat) (z3 : List Int) (a4 : Option Addr) (len4 cap4 : Nat) (z4 : List Int) (w : World) (w0 : IsRow .u8 w a0 len0 cap0 z0) (w1 : IsRow .u8 w a1 len1 cap1 z1) (w2 : (Lit.int .i64 a2).wf = true) (w3 : IsRow .i64 w a3 len3 cap3 z3) (w4 : IsRow .i64 w a4 len4 cap4 z4) (b0 : ∀ b, blk (.slice a0 len0 cap0) = some b → b < w.heap.size) (b1 : ∀ b, blk (.slice a1 len1 cap1) = some b → b < w.heap.size) (b3 : ∀ b, blk (.slice a3 len3 cap3) = some b → b < w.heap.size) (b4 : ∀ b, blk (.slice a4 len4 cap4) = some b → b < w.heap.size) {ad : Nat → Addr} (hE : Errs allCodes ad w.heap.size w) :
    Calls Tryz.prog 7 #[.slice a0 len0 cap0, .slice a1 len1 cap1, .int .i64 a2, .slice a3 len3 cap3, .slice a4 len4 cap4] w fun e w' => e = .returned (.bool true) ∧ Below w.heap.size w w' := by
  exact law_of (upGoesOn_sl hE (Mem.start w) (Came.bytes w0.bytes b0).1 (Came.bytes w1.bytes b1).1 (Came.ints w3.ints b3).1 (Came.ints w4.ints b4).1 (Came.bytes w0.bytes b0).2 (Came.bytes w1.bytes b1).2 (Came.ints w3.ints b3).2 (Came.ints w4.ints b4).2)

theorem door_met (os : Os) (args : Array Value) : laidMetH Tryz.prog Rows.upGoesOnRow.laid ((World.doorLaid Tryz.prog 370 os).forCall (fun _ _ => 0) ⟨#[], args, []⟩).memory :=
  laidMetH_of_parts3 (fuel := 8) (laidMet_of_run' 8 (by kernel_rfl) (by kernel_rfl)) (by kernel_rfl) (by kernel_rfl)

/-! ### THE ROW's STEP: WRITTEN OUT: LEAVE IT -/
set_option maxRecDepth 100000 in
theorem lifted (os : Os) (started : os.Started) (H : Type) (enc : TypeId × Value → H) :
    ReturnsInHanded {} Tryz.checked os 7 .any (fun w args => (Rows.upGoesOnSpec.pre enc Tryz.prog Tryz.f7 [] false w args ∧ laidMetH Tryz.prog Rows.upGoesOnRow.laid w) ∧ sizedMet enc Tryz.prog Tryz.f7 (OpenSpec.ofChange Rows.upGoesOnSpec) false w args) (Rows.upGoesOnSpec.post enc Tryz.prog Tryz.f7 false true false false) := by
  refine returnsInHanded_of_change_and (C := Tryz.checked) (X := fun w _ => laidMetH Tryz.prog Rows.upGoesOnRow.laid w) (fun _ _ _ hh h => h.of_heap hh) own started (by kernel_rfl) Tryz.func7
    (ChangeSpec.witness_shaped (enc := enc) (C := Tryz.checked) (os := os) (X := fun w _ => laidMetH Tryz.prog Rows.upGoesOnRow.laid w) false (World.doorLaid Tryz.prog 370 os) #[.slice none 0 0, .slice none 0 0, .int .i64 0, .slice none 0 0, .slice none 0 0] 8 rfl (World.shaped_of_RefB (by kernel_rfl) (by kernel_rfl)) (by kernel_rfl) (by kernel_rfl) (by kernel_rfl) (door_met os _)) ?_
  intro W base args ds gs before hval0 hW hcnd _ hL _
  have hval : ∀ (j : Nat) t v, Tryz.f7.params[j]? = some t → args[j]? = some v → Value.okWide Tryz.prog W .any base t v := hval0
  have hW' := hW
  obtain ⟨p, q, hA0, hV, rfl, hfz, hnd⟩ := hW
  have hA : DataW.TrodAll enc Tryz.prog W 0 (fun _ => true) true Tryz.f7.params.toList args.toList ds p := hA0
  rw [Tryz.params7] at hA hval
  obtain ⟨v0, vs0, d0, ds0, p0, q0, hargs, rfl, rfl, h0, r0⟩ := trodAll_cons hA
  obtain ⟨v1, vs1, d1, ds1, p1, q1, rfl, rfl, rfl, h1, r1⟩ := trodAll_cons r0
  obtain ⟨v2, vs2, d2, ds2, p2, q2, rfl, rfl, rfl, h2, r2⟩ := trodAll_cons r1
  obtain ⟨v3, vs3, d3, ds3, p3, q3, rfl, rfl, rfl, h3, r3⟩ := trodAll_cons r2
  obtain ⟨v4, vs4, d4, ds4, p4, q4, rfl, rfl, rfl, h4, r4⟩ := trodAll_cons r3
  obtain ⟨rfl, rfl, rfl⟩ := trodAll_nil r4
  obtain rfl : args = #[v0, v1, v2, v3, v4] := by cases args; simp_all
  obtain ⟨rfl, rfl⟩ := trodVars_none hV
  obtain ⟨a0, len0, cap0, rfl⟩ := okWide_slice Tryz.underlying22 (hval 0 22 v0 rfl rfl)
  have k0 := h0
  have lt0 : ∀ x ∈ p0, x.block < W.heap.size := by obtain ⟨m, hm⟩ := k0; exact DataW.trod_lt m _ _ _ hm
  obtain ⟨z0, w0⟩ : ∃ zs, IsRow .u8 W a0 len0 cap0 zs := by
    obtain ⟨fuel, hf⟩ := h0
    rcases open_ints Tryz.underlying22 Tryz.underlying5 (by kernel_rfl) hf with ⟨hcs, _⟩ | ⟨x, l, c, zs, hcs, _, hl, hm, hz, _, hcell, hwz⟩
    · simp [Value.cells] at hcs
      obtain ⟨rfl, rfl, rfl⟩ := hcs
      exact ⟨[], .inl ⟨rfl, rfl, rfl, rfl⟩⟩
    · simp [Value.cells] at hcs
      obtain ⟨rfl, rfl, rfl⟩ := hcs
      exact ⟨zs, .inr ⟨_, rfl, hl, hm, by simpa using hz, hcell, hwz⟩⟩
  obtain ⟨a1, len1, cap1, rfl⟩ := okWide_slice Tryz.underlying22 (hval 1 22 v1 rfl rfl)
  have k1 := h1
  have lt1 : ∀ x ∈ p1, x.block < W.heap.size := by obtain ⟨m, hm⟩ := k1; exact DataW.trod_lt m _ _ _ hm
  obtain ⟨z1, w1⟩ : ∃ zs, IsRow .u8 W a1 len1 cap1 zs := by
    obtain ⟨fuel, hf⟩ := h1
    rcases open_ints Tryz.underlying22 Tryz.underlying5 (by kernel_rfl) hf with ⟨hcs, _⟩ | ⟨x, l, c, zs, hcs, _, hl, hm, hz, _, hcell, hwz⟩
    · simp [Value.cells] at hcs
      obtain ⟨rfl, rfl, rfl⟩ := hcs
      exact ⟨[], .inl ⟨rfl, rfl, rfl, rfl⟩⟩
    · simp [Value.cells] at hcs
      obtain ⟨rfl, rfl, rfl⟩ := hcs
      exact ⟨zs, .inr ⟨_, rfl, hl, hm, by simpa using hz, hcell, hwz⟩⟩
  obtain ⟨a2, rfl, rfl, rfl, w2⟩ := open_int Tryz.underlying3 (hval 2 3 v2 rfl rfl) h2
  obtain ⟨a3, len3, cap3, rfl⟩ := okWide_slice Tryz.underlying74 (hval 3 74 v3 rfl rfl)
  have k3 := h3
  have lt3 : ∀ x ∈ p3, x.block < W.heap.size := by obtain ⟨m, hm⟩ := k3; exact DataW.trod_lt m _ _ _ hm
  obtain ⟨z3, w3⟩ : ∃ zs, IsRow .i64 W a3 len3 cap3 zs := by
    obtain ⟨fuel, hf⟩ := h3
    rcases open_ints Tryz.underlying74 Tryz.underlying3 (by kernel_rfl) hf with ⟨hcs, _⟩ | ⟨x, l, c, zs, hcs, _, hl, hm, hz, _, hcell, hwz⟩
    · simp [Value.cells] at hcs
      obtain ⟨rfl, rfl, rfl⟩ := hcs
      exact ⟨[], .inl ⟨rfl, rfl, rfl, rfl⟩⟩
    · simp [Value.cells] at hcs
      obtain ⟨rfl, rfl, rfl⟩ := hcs
      exact ⟨zs, .inr ⟨_, rfl, hl, hm, by simpa using hz, hcell, hwz⟩⟩
  obtain ⟨a4, len4, cap4, rfl⟩ := okWide_slice Tryz.underlying74 (hval 4 74 v4 rfl rfl)
  have k4 := h4
  have lt4 : ∀ x ∈ p4, x.block < W.heap.size := by obtain ⟨m, hm⟩ := k4; exact DataW.trod_lt m _ _ _ hm
  obtain ⟨z4, w4⟩ : ∃ zs, IsRow .i64 W a4 len4 cap4 zs := by
    obtain ⟨fuel, hf⟩ := h4
    rcases open_ints Tryz.underlying74 Tryz.underlying3 (by kernel_rfl) hf with ⟨hcs, _⟩ | ⟨x, l, c, zs, hcs, _, hl, hm, hz, _, hcell, hwz⟩
    · simp [Value.cells] at hcs
      obtain ⟨rfl, rfl, rfl⟩ := hcs
      exact ⟨[], .inl ⟨rfl, rfl, rfl, rfl⟩⟩
    · simp [Value.cells] at hcs
      obtain ⟨rfl, rfl, rfl⟩ := hcs
      exact ⟨zs, .inr ⟨_, rfl, hl, hm, by simpa using hz, hcell, hwz⟩⟩
  clear hA0 hval0
  obtain ⟨ad, hE⟩ := errs_of_laid (L := allCodes) hL rfl (by decide) (by decide) (by decide)
  refine (walk a0 len0 cap0 z0 a1 len1 cap1 z1 a2 a3 len3 cap3 z3 a4 len4 cap4 z4 W w0 w1 w2 w3 w4 (blk_of_ok Tryz.underlying22 (hval 0 22 _ rfl rfl)) (blk_of_ok Tryz.underlying22 (hval 1 22 _ rfl rfl)) (blk_of_ok Tryz.underlying74 (hval 3 74 _ rfl rfl)) (blk_of_ok Tryz.underlying74 (hval 4 74 _ rfl rfl)) hE).mono fun e W' ⟨he, bel⟩ => ?_
  subst he
  exact ⟨_, rfl, _, _, _, [], _, [], hW', trodAll_mk1 (shut_bool Tryz.underlying4 _), (trodAll_cons_mk (Below.trod laidOut (by kernel_rfl) (of_decide_eq_true (by kernel_rfl)) k0 bel lt0) (trodAll_cons_mk (Below.trod laidOut (by kernel_rfl) (of_decide_eq_true (by kernel_rfl)) k1 bel lt1) (trodAll_cons_mk (shut_int Tryz.underlying3 w2) (trodAll_cons_mk (Below.trod laidOut (by kernel_rfl) (of_decide_eq_true (by kernel_rfl)) k3 bel lt3) (trodAll_cons_mk (Below.trod laidOut (by kernel_rfl) (of_decide_eq_true (by kernel_rfl)) k4 bel lt4) trodAll_mk0))))), rfl, bel.frame _, fun h => by cases h⟩

theorem closed1 : joinedFacts Tryz.pinned.checked.prog 7 Tryz.f7 Rows.upGoesOnSpec Rows.upGoesOnRow = true :=
  (both_true (both_true (both_true (both_true (both_true (both_true (both_true (both_true (both_true (both_true (both_true (both_true (both_true (both_true (both_true (both_true (both_true (both_true (both_true (both_true (both_true (both_true (both_true (both_true (both_true (both_true (both_true (both_true (both_true (both_true (both_true (by kernel_rfl) (by kernel_rfl)) (by kernel_rfl)) (by kernel_rfl)) (by kernel_rfl)) (by kernel_rfl)) (by kernel_rfl)) (by kernel_rfl)) (by kernel_rfl)) (by kernel_rfl)) (by kernel_rfl)) (by kernel_rfl)) (by kernel_rfl)) (by kernel_rfl)) (by kernel_rfl)) (by kernel_rfl)) (by kernel_rfl)) (by kernel_rfl)) (by kernel_rfl)) (by kernel_rfl)) (by kernel_rfl)) (by kernel_rfl)) (by kernel_rfl)) (by kernel_rfl)) (by kernel_rfl)) headMay) headLifts) headMake) (by kernel_rfl)) (by kernel_rfl)) (by kernel_rfl)) (by kernel_rfl))
theorem closed2 : Tryz.f7.isInstance Tryz.pinned.checked.prog Rows.upGoesOnRow.origin Rows.upGoesOnRow.targs := of_decide_eq_true (by kernel_rfl)
theorem closed0 : decide (Check.packageOf Tryz.f7.name = "main") = false := by kernel_rfl
theorem closed3 : Tryz.f7.isWrapper Tryz.pinned.checked.prog Rows.upGoesOnRow.wrapper Rows.upGoesOnRow.mainSum := by
  unfold Func.isWrapper; rw [if_neg (of_decide_eq_false closed0)]; exact ⟨rfl, rfl⟩
theorem closed4 (os : Os) (started : os.Started) (H : Type) (enc : TypeId × Value → H) :
    ReturnsInHanded Rows.upGoesOnRow.assume Tryz.pinned.checked os 7 .any (Rows.upGoesOnRow.pre enc Tryz.pinned.checked.prog Tryz.f7 (OpenSpec.ofChange Rows.upGoesOnSpec)) (Rows.upGoesOnSpec.post enc Tryz.pinned.checked.prog Tryz.f7 Rows.upGoesOnRow.apart Rows.upGoesOnRow.fresh Rows.upGoesOnRow.handsOn Rows.upGoesOnRow.again) := lifted os started H enc
theorem closed5 : Tryz.pinned.checked.prog.funcNamed Rows.upGoesOnRow.func = some 7 := by kernel_rfl
theorem over : Rows.upGoesOnRow.holds Tryz.pinned (OpenSpec.ofChange Rows.upGoesOnSpec) :=
  OpenClaim.holds_of_wide 7 Tryz.f7 rfl rfl rfl rfl rfl rfl rfl ⟨rfl, rfl, rfl, rfl, rfl⟩ rfl rfl rfl rfl rfl closed5 Tryz.func7 closed1 closed2 closed3
    (fun os started H enc _ => closed4 os started H enc)

theorem card_wf : Rows.upGoesOnRow.wfByText (OpenSpec.ofChange Rows.upGoesOnSpec) = true := by kernel_rfl
theorem card_main : Tryz.pinned.checked.prog.mainIs = some ((true, "e24eb6fa8e2400d6676179ed11828bbfece46403d760b9ae35b13185838c2e9e").1, ((true, "e24eb6fa8e2400d6676179ed11828bbfece46403d760b9ae35b13185838c2e9e").2 : String).toList) := by kernel_rfl
theorem card_looks : true = Tryz.pinned.checked.prog.looks [] := by kernel_rfl
theorem card_goes : false = Rows.upGoesOnRow.goesBy Tryz.pinned.checked.prog := by kernel_rfl
theorem card_named : Tryz.prog.funcNamed "cordwood/cordwoodlaw21.UpGoesOn" = some 7 := by kernel_rfl
theorem card_stand : ([3, 22, 74].all fun u => !Tryz.prog.wantsStandIn u) = true := by kernel_rfl
theorem card_params (t : TypeId) (j : Nat) (ht : Tryz.f7.params[j]? = some t) : Tryz.pinned.checked.prog.wantsStandIn t = false := by
  rw [Tryz.params7] at ht
  have hm : t ∈ [3, 22, 74] := by
    have := Array.mem_of_getElem? ht
    first | (revert this; simp <;> omega) | (simp only [List.mem_toArray, List.mem_cons, List.not_mem_nil, or_false] at this ⊢; omega) | grind
  exact (show Tryz.prog.wantsStandIn t = false by simpa using List.all_eq_true.1 card_stand t hm)
theorem card_fn (f : FuncId) (fn : Func) (hf : Tryz.pinned.checked.prog.funcNamed Rows.upGoesOnRow.func = some f) (hfn : Tryz.pinned.checked.prog.funcs[f]? = some fn) :
    true = Tryz.pinned.checked.prog.looks [] ∧ ∀ (j : Nat) t, fn.params[j]? = some t → Tryz.pinned.checked.prog.wantsStandIn t = false := by
  obtain rfl : f = 7 := Option.some.inj (card_named.symm.trans hf) |>.symm
  obtain rfl : fn = Tryz.f7 := (Option.some.inj (Tryz.func7.symm.trans hfn)).symm
  exact ⟨card_looks, fun j t ht => card_params t j ht⟩
/-- The tied card. -/
theorem proved : Rows.UpGoesOnCardSaid :=
  Claim7.holds_tied_plain_at .later [] [.sentinel, .sentinel, .sentinel, .sentinel, .sentinel, .sentinel, .sentinel, .sentinel, .sentinel, .sentinel, .sentinel, .sentinel, .sentinel, .sentinel, .sentinel, .sentinel, .sentinel, .sentinel, .sentinel] true (true, "e24eb6fa8e2400d6676179ed11828bbfece46403d760b9ae35b13185838c2e9e") true
    over (fun _ h => by cases h) card_wf (fun _ h => by cases h) upGoesOn_row_tie rfl ⟨rfl, rfl⟩ card_main rfl card_fn card_goes
#print axioms proved
end Go.Proofs.YthejaanobeonnaaGreatDoor.upGoesOn
