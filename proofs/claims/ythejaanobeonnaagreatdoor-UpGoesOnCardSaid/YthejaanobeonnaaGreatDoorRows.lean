/-
  NARROWER THAN 'FOR EVERY INPUT', by the rows' own cells (each row's printed sentence says how): UpTwo: laid · UpRefuses: laid · UpCounts: laid · UpEnds: laid · UpGoesOn: laid.
  DERIVED. THE GIVEN ROWS OF THIS SEAT. 5 by the template 'for every input the law returns true; each argument reads behind the call as it read before'; 0 by the template 'total and deterministic' (their statements: YthejaanobeonnaaGreatDoorTotals.lean).
  GIVEN WITH THE SEED: the statements are not yours to turn. If you find one false, say at which input.
  Laid BY PROGRAM, IN A SANDBOX (cutbox-rows.mjs): the forced cells as the released guide's own fill.sh prints them over the translation 63d53b57a4bf639f… (all of the seat's roots in one cut). By AI agents, Wed Nov 11 2026. No macro, syntax, notation, axiom, sorry.
-/
import Derived.Test.YthejaanobeonnaaGreatDoorChecked
import GoSem.Claim
import GoSem.ClaimJoined
import GoSem.ClaimMapViews
import Derived.JoinedTies
import Derived.KernelRfl
namespace Go.Proofs.YthejaanobeonnaaGreatDoor
/- THE CELL 'sum', in the pinned program and in every row, IS THE sha256 OF THE DUMP (.gsa) THAT YthejaanobeonnaaGreatDoorProg.lean LOADS. Nothing in Lean hashes anything: it is a label: what it is worth is what the hold of that sum in a sandbox is worth. -/
noncomputable def Tryz.pinned : Pinned := { name := "ythejaanobeonnaagreatdoor", sum := "63d53b57a4bf639f6b2337158e6a5ccebc42c98f59bf6f6b534df11b0a538ad4", checked := Tryz.checked }
namespace Rows
def none {H : Type} : Left H := { results := [], args := [] }

/- WHAT THE LISTED PACKAGE-LEVEL VARIABLES READ AS WHEN THE CALL BEGINS. Each datum BY PROGRAM (the guide's laid-datum.mjs) off the statement by which the dump's own 'gosem.cut.vars' lays the variable. In a bare row this is a premise. The card (YthejaanobeonnaaGreatDoorCards.lean) ties it to the program's text. -/
def laid_cordwood_api_ErrEnd {H : Type} : DataW H := .iface "*errors.errorString" (.ptr (.agg [.lit (.string [105, 116, 32, 101, 110, 100, 115, 32, 116, 111, 111, 32, 101, 97, 114, 108, 121])]))
def laid_cordwood_api_ErrSum {H : Type} : DataW H := .iface "*errors.errorString" (.ptr (.agg [.lit (.string [116, 104, 101, 32, 115, 117, 109, 32, 105, 115, 32, 97, 110, 111, 116, 104, 101, 114, 32, 111, 110, 101])]))
def laid_cordwood_api_ErrShape {H : Type} : DataW H := .iface "*errors.errorString" (.ptr (.agg [.lit (.string [110, 111, 116, 32, 97, 115, 32, 105, 116, 32, 104, 97, 115, 32, 116, 111, 32, 98, 101])]))
def laid_cordwood_api_ErrMany {H : Type} : DataW H := .iface "*errors.errorString" (.ptr (.agg [.lit (.string [116, 111, 111, 32, 109, 97, 110, 121])]))
def laid_cordwood_api_ErrRange {H : Type} : DataW H := .iface "*errors.errorString" (.ptr (.agg [.lit (.string [97, 32, 110, 117, 109, 98, 101, 114, 32, 111, 117, 116, 32, 111, 102, 32, 105, 116, 115, 32, 114, 97, 110, 103, 101])]))
def laid_cordwood_api_ErrName {H : Type} : DataW H := .iface "*errors.errorString" (.ptr (.agg [.lit (.string [110, 111, 32, 110, 97, 109, 101, 32, 116, 104, 97, 116, 32, 109, 97, 121, 32, 98, 101])]))
def laid_cordwood_api_ErrNone {H : Type} : DataW H := .iface "*errors.errorString" (.ptr (.agg [.lit (.string [116, 104, 101, 114, 101, 32, 105, 115, 32, 110, 111, 110, 101])]))
def laid_cordwood_api_ErrThere {H : Type} : DataW H := .iface "*errors.errorString" (.ptr (.agg [.lit (.string [116, 104, 101, 114, 101, 32, 105, 115, 32, 111, 110, 101])]))
def laid_cordwood_api_ErrFull {H : Type} : DataW H := .iface "*errors.errorString" (.ptr (.agg [.lit (.string [116, 104, 101, 114, 101, 32, 105, 115, 32, 110, 111, 32, 114, 111, 111, 109])]))
def laid_cordwood_api_ErrCrash {H : Type} : DataW H := .iface "*errors.errorString" (.ptr (.agg [.lit (.string [116, 104, 101, 32, 112, 111, 119, 101, 114, 32, 105, 115, 32, 103, 111, 110, 101])]))
def laid_cordwood_api_ErrStore {H : Type} : DataW H := .iface "*errors.errorString" (.ptr (.agg [.lit (.string [116, 104, 101, 32, 115, 116, 111, 114, 101, 32, 100, 111, 101, 115, 32, 110, 111, 116, 32, 97, 110, 115, 119, 101, 114])]))
def laid_cordwood_api_ErrKind {H : Type} : DataW H := .iface "*errors.errorString" (.ptr (.agg [.lit (.string [110, 111, 32, 115, 117, 99, 104, 32, 107, 105, 110, 100])]))
def laid_cordwood_api_ErrState {H : Type} : DataW H := .iface "*errors.errorString" (.ptr (.agg [.lit (.string [110, 111, 116, 32, 105, 110, 32, 116, 104, 105, 115, 32, 115, 116, 97, 116, 101])]))
def laid_cordwood_api_ErrFenced {H : Type} : DataW H := .iface "*errors.errorString" (.ptr (.agg [.lit (.string [97, 110, 32, 101, 108, 100, 101, 114, 32, 101, 112, 111, 99, 104])]))
def laid_cordwood_api_ErrOutside {H : Type} : DataW H := .iface "*errors.errorString" (.ptr (.agg [.lit (.string [110, 111, 32, 115, 117, 99, 104, 32, 111, 102, 102, 115, 101, 116])]))
def laid_cordwood_api_ErrUnavail {H : Type} : DataW H := .iface "*errors.errorString" (.ptr (.agg [.lit (.string [110, 111, 116, 32, 116, 111, 32, 98, 101, 32, 104, 97, 100, 32, 110, 111, 119])]))
def laid_cordwood_api_ErrWord {H : Type} : DataW H := .iface "*errors.errorString" (.ptr (.agg [.lit (.string [110, 111, 32, 115, 117, 99, 104, 32, 119, 111, 114, 100])]))
def laid_cordwood_api_ErrNumber {H : Type} : DataW H := .iface "*errors.errorString" (.ptr (.agg [.lit (.string [110, 111, 32, 115, 117, 99, 104, 32, 110, 117, 109, 98, 101, 114])]))
def laid_cordwood_api_ErrClosed {H : Type} : DataW H := .iface "*errors.errorString" (.ptr (.agg [.lit (.string [105, 116, 32, 105, 115, 32, 99, 108, 111, 115, 101, 100])]))

/-- 'cordwoodlaw21.UpTwo': WHATEVER THE INPUT: true; the input reads as it did. -/
def upTwoSpec : ChangeSpec := { name := "upTwo", fn := fun _ => fun
  | [d1, d2, d3, d4] => { results := [.lit (.bool true)], args := [d1, d2, d3, d4] }
  | _ => none }
def upTwoRow : OpenClaim := { program := "ythejaanobeonnaagreatdoor", sum := "63d53b57a4bf639f6b2337158e6a5ccebc42c98f59bf6f6b534df11b0a538ad4", func := "cordwood/cordwoodlaw21.UpTwo", spec := "upTwo", inPlace := ["maps.clone"], unfollowed := true, recurses := true, named := ["cordwood/api.ErrRange", "cordwood/api.ErrNone", "cordwood/api.ErrCrash", "cordwood/api.ErrEnd", "cordwood/api.ErrSum", "cordwood/api.ErrShape", "cordwood/api.ErrKind", "cordwood/api.ErrMany", "cordwood/api.ErrName", "cordwood/api.ErrThere", "cordwood/api.ErrState", "cordwood/api.ErrFull", "cordwood/api.ErrStore"], apart := false, laid := [("cordwood/api.ErrEnd", laid_cordwood_api_ErrEnd), ("cordwood/api.ErrSum", laid_cordwood_api_ErrSum), ("cordwood/api.ErrShape", laid_cordwood_api_ErrShape), ("cordwood/api.ErrMany", laid_cordwood_api_ErrMany), ("cordwood/api.ErrRange", laid_cordwood_api_ErrRange), ("cordwood/api.ErrName", laid_cordwood_api_ErrName), ("cordwood/api.ErrNone", laid_cordwood_api_ErrNone), ("cordwood/api.ErrThere", laid_cordwood_api_ErrThere), ("cordwood/api.ErrFull", laid_cordwood_api_ErrFull), ("cordwood/api.ErrCrash", laid_cordwood_api_ErrCrash), ("cordwood/api.ErrStore", laid_cordwood_api_ErrStore), ("cordwood/api.ErrKind", laid_cordwood_api_ErrKind), ("cordwood/api.ErrState", laid_cordwood_api_ErrState)] }
def UpTwoSaid : Prop := upTwoRow.holds Tryz.pinned (OpenSpec.ofChange upTwoSpec)

/-- ITS FALSE NEIGHBOUR: 'it returns false'. Refute it at one input. -/
def upTwoWrong : ChangeSpec := { name := "upTwo", fn := fun _ => fun
  | [d1, d2, d3, d4] => { results := [.lit (.bool false)], args := [d1, d2, d3, d4] }
  | _ => none }
def UpTwoWrongFalsely : Prop := upTwoRow.holds Tryz.pinned (OpenSpec.ofChange upTwoWrong)

/-- 'cordwoodlaw21.UpRefuses': WHATEVER THE INPUT: true; the input reads as it did. -/
def upRefusesSpec : ChangeSpec := { name := "upRefuses", fn := fun _ => fun
  | [d1, d2, d3, d4] => { results := [.lit (.bool true)], args := [d1, d2, d3, d4] }
  | _ => none }
def upRefusesRow : OpenClaim := { program := "ythejaanobeonnaagreatdoor", sum := "63d53b57a4bf639f6b2337158e6a5ccebc42c98f59bf6f6b534df11b0a538ad4", func := "cordwood/cordwoodlaw21.UpRefuses", spec := "upRefuses", inPlace := ["maps.clone"], unfollowed := true, recurses := true, named := ["cordwood/api.ErrRange", "cordwood/api.ErrNone", "cordwood/api.ErrCrash", "cordwood/api.ErrEnd", "cordwood/api.ErrSum", "cordwood/api.ErrShape", "cordwood/api.ErrKind", "cordwood/api.ErrMany", "cordwood/api.ErrName", "cordwood/api.ErrThere", "cordwood/api.ErrState", "cordwood/api.ErrFull", "cordwood/api.ErrStore", "cordwood/api.ErrFenced", "cordwood/api.ErrOutside", "cordwood/api.ErrUnavail", "cordwood/api.ErrWord", "cordwood/api.ErrNumber", "cordwood/api.ErrClosed"], apart := false, laid := [("cordwood/api.ErrEnd", laid_cordwood_api_ErrEnd), ("cordwood/api.ErrSum", laid_cordwood_api_ErrSum), ("cordwood/api.ErrShape", laid_cordwood_api_ErrShape), ("cordwood/api.ErrMany", laid_cordwood_api_ErrMany), ("cordwood/api.ErrRange", laid_cordwood_api_ErrRange), ("cordwood/api.ErrName", laid_cordwood_api_ErrName), ("cordwood/api.ErrNone", laid_cordwood_api_ErrNone), ("cordwood/api.ErrThere", laid_cordwood_api_ErrThere), ("cordwood/api.ErrFull", laid_cordwood_api_ErrFull), ("cordwood/api.ErrCrash", laid_cordwood_api_ErrCrash), ("cordwood/api.ErrStore", laid_cordwood_api_ErrStore), ("cordwood/api.ErrKind", laid_cordwood_api_ErrKind), ("cordwood/api.ErrState", laid_cordwood_api_ErrState), ("cordwood/api.ErrFenced", laid_cordwood_api_ErrFenced), ("cordwood/api.ErrOutside", laid_cordwood_api_ErrOutside), ("cordwood/api.ErrUnavail", laid_cordwood_api_ErrUnavail), ("cordwood/api.ErrWord", laid_cordwood_api_ErrWord), ("cordwood/api.ErrNumber", laid_cordwood_api_ErrNumber), ("cordwood/api.ErrClosed", laid_cordwood_api_ErrClosed)] }
def UpRefusesSaid : Prop := upRefusesRow.holds Tryz.pinned (OpenSpec.ofChange upRefusesSpec)

/-- ITS FALSE NEIGHBOUR: 'it returns false'. Refute it at one input. -/
def upRefusesWrong : ChangeSpec := { name := "upRefuses", fn := fun _ => fun
  | [d1, d2, d3, d4] => { results := [.lit (.bool false)], args := [d1, d2, d3, d4] }
  | _ => none }
def UpRefusesWrongFalsely : Prop := upRefusesRow.holds Tryz.pinned (OpenSpec.ofChange upRefusesWrong)

/-- 'cordwoodlaw21.UpCounts': WHATEVER THE INPUT: true; the input reads as it did. -/
def upCountsSpec : ChangeSpec := { name := "upCounts", fn := fun _ => fun
  | [d1, d2, d3] => { results := [.lit (.bool true)], args := [d1, d2, d3] }
  | _ => none }
def upCountsRow : OpenClaim := { program := "ythejaanobeonnaagreatdoor", sum := "63d53b57a4bf639f6b2337158e6a5ccebc42c98f59bf6f6b534df11b0a538ad4", func := "cordwood/cordwoodlaw21.UpCounts", spec := "upCounts", inPlace := ["maps.clone"], unfollowed := true, recurses := true, named := ["cordwood/api.ErrRange", "cordwood/api.ErrNone", "cordwood/api.ErrCrash", "cordwood/api.ErrEnd", "cordwood/api.ErrSum", "cordwood/api.ErrShape", "cordwood/api.ErrKind", "cordwood/api.ErrMany", "cordwood/api.ErrName", "cordwood/api.ErrThere", "cordwood/api.ErrState", "cordwood/api.ErrFull", "cordwood/api.ErrStore"], apart := false, laid := [("cordwood/api.ErrEnd", laid_cordwood_api_ErrEnd), ("cordwood/api.ErrSum", laid_cordwood_api_ErrSum), ("cordwood/api.ErrShape", laid_cordwood_api_ErrShape), ("cordwood/api.ErrMany", laid_cordwood_api_ErrMany), ("cordwood/api.ErrRange", laid_cordwood_api_ErrRange), ("cordwood/api.ErrName", laid_cordwood_api_ErrName), ("cordwood/api.ErrNone", laid_cordwood_api_ErrNone), ("cordwood/api.ErrThere", laid_cordwood_api_ErrThere), ("cordwood/api.ErrFull", laid_cordwood_api_ErrFull), ("cordwood/api.ErrCrash", laid_cordwood_api_ErrCrash), ("cordwood/api.ErrStore", laid_cordwood_api_ErrStore), ("cordwood/api.ErrKind", laid_cordwood_api_ErrKind), ("cordwood/api.ErrState", laid_cordwood_api_ErrState)] }
def UpCountsSaid : Prop := upCountsRow.holds Tryz.pinned (OpenSpec.ofChange upCountsSpec)

/-- ITS FALSE NEIGHBOUR: 'it returns false'. Refute it at one input. -/
def upCountsWrong : ChangeSpec := { name := "upCounts", fn := fun _ => fun
  | [d1, d2, d3] => { results := [.lit (.bool false)], args := [d1, d2, d3] }
  | _ => none }
def UpCountsWrongFalsely : Prop := upCountsRow.holds Tryz.pinned (OpenSpec.ofChange upCountsWrong)

/-- 'cordwoodlaw21.UpEnds': WHATEVER THE INPUT: true; the input reads as it did. -/
def upEndsSpec : ChangeSpec := { name := "upEnds", fn := fun _ => fun
  | [d1, d2, d3, d4, d5] => { results := [.lit (.bool true)], args := [d1, d2, d3, d4, d5] }
  | _ => none }
def upEndsRow : OpenClaim := { program := "ythejaanobeonnaagreatdoor", sum := "63d53b57a4bf639f6b2337158e6a5ccebc42c98f59bf6f6b534df11b0a538ad4", func := "cordwood/cordwoodlaw21.UpEnds", spec := "upEnds", inPlace := ["maps.clone"], unfollowed := true, recurses := true, named := ["cordwood/api.ErrRange", "cordwood/api.ErrNone", "cordwood/api.ErrCrash", "cordwood/api.ErrEnd", "cordwood/api.ErrSum", "cordwood/api.ErrShape", "cordwood/api.ErrKind", "cordwood/api.ErrMany", "cordwood/api.ErrName", "cordwood/api.ErrThere", "cordwood/api.ErrState", "cordwood/api.ErrFull", "cordwood/api.ErrStore", "cordwood/api.ErrFenced", "cordwood/api.ErrOutside", "cordwood/api.ErrUnavail", "cordwood/api.ErrWord", "cordwood/api.ErrNumber", "cordwood/api.ErrClosed"], apart := false, laid := [("cordwood/api.ErrEnd", laid_cordwood_api_ErrEnd), ("cordwood/api.ErrSum", laid_cordwood_api_ErrSum), ("cordwood/api.ErrShape", laid_cordwood_api_ErrShape), ("cordwood/api.ErrMany", laid_cordwood_api_ErrMany), ("cordwood/api.ErrRange", laid_cordwood_api_ErrRange), ("cordwood/api.ErrName", laid_cordwood_api_ErrName), ("cordwood/api.ErrNone", laid_cordwood_api_ErrNone), ("cordwood/api.ErrThere", laid_cordwood_api_ErrThere), ("cordwood/api.ErrFull", laid_cordwood_api_ErrFull), ("cordwood/api.ErrCrash", laid_cordwood_api_ErrCrash), ("cordwood/api.ErrStore", laid_cordwood_api_ErrStore), ("cordwood/api.ErrKind", laid_cordwood_api_ErrKind), ("cordwood/api.ErrState", laid_cordwood_api_ErrState), ("cordwood/api.ErrFenced", laid_cordwood_api_ErrFenced), ("cordwood/api.ErrOutside", laid_cordwood_api_ErrOutside), ("cordwood/api.ErrUnavail", laid_cordwood_api_ErrUnavail), ("cordwood/api.ErrWord", laid_cordwood_api_ErrWord), ("cordwood/api.ErrNumber", laid_cordwood_api_ErrNumber), ("cordwood/api.ErrClosed", laid_cordwood_api_ErrClosed)] }
def UpEndsSaid : Prop := upEndsRow.holds Tryz.pinned (OpenSpec.ofChange upEndsSpec)

/-- ITS FALSE NEIGHBOUR: 'it returns false'. Refute it at one input. -/
def upEndsWrong : ChangeSpec := { name := "upEnds", fn := fun _ => fun
  | [d1, d2, d3, d4, d5] => { results := [.lit (.bool false)], args := [d1, d2, d3, d4, d5] }
  | _ => none }
def UpEndsWrongFalsely : Prop := upEndsRow.holds Tryz.pinned (OpenSpec.ofChange upEndsWrong)

/-- 'cordwoodlaw21.UpGoesOn': WHATEVER THE INPUT: true; the input reads as it did. -/
def upGoesOnSpec : ChangeSpec := { name := "upGoesOn", fn := fun _ => fun
  | [d1, d2, d3, d4, d5] => { results := [.lit (.bool true)], args := [d1, d2, d3, d4, d5] }
  | _ => none }
def upGoesOnRow : OpenClaim := { program := "ythejaanobeonnaagreatdoor", sum := "63d53b57a4bf639f6b2337158e6a5ccebc42c98f59bf6f6b534df11b0a538ad4", func := "cordwood/cordwoodlaw21.UpGoesOn", spec := "upGoesOn", inPlace := ["maps.clone"], unfollowed := true, recurses := true, named := ["cordwood/api.ErrRange", "cordwood/api.ErrNone", "cordwood/api.ErrCrash", "cordwood/api.ErrEnd", "cordwood/api.ErrSum", "cordwood/api.ErrShape", "cordwood/api.ErrKind", "cordwood/api.ErrMany", "cordwood/api.ErrName", "cordwood/api.ErrThere", "cordwood/api.ErrState", "cordwood/api.ErrFull", "cordwood/api.ErrStore", "cordwood/api.ErrFenced", "cordwood/api.ErrOutside", "cordwood/api.ErrUnavail", "cordwood/api.ErrWord", "cordwood/api.ErrNumber", "cordwood/api.ErrClosed"], apart := false, laid := [("cordwood/api.ErrEnd", laid_cordwood_api_ErrEnd), ("cordwood/api.ErrSum", laid_cordwood_api_ErrSum), ("cordwood/api.ErrShape", laid_cordwood_api_ErrShape), ("cordwood/api.ErrMany", laid_cordwood_api_ErrMany), ("cordwood/api.ErrRange", laid_cordwood_api_ErrRange), ("cordwood/api.ErrName", laid_cordwood_api_ErrName), ("cordwood/api.ErrNone", laid_cordwood_api_ErrNone), ("cordwood/api.ErrThere", laid_cordwood_api_ErrThere), ("cordwood/api.ErrFull", laid_cordwood_api_ErrFull), ("cordwood/api.ErrCrash", laid_cordwood_api_ErrCrash), ("cordwood/api.ErrStore", laid_cordwood_api_ErrStore), ("cordwood/api.ErrKind", laid_cordwood_api_ErrKind), ("cordwood/api.ErrState", laid_cordwood_api_ErrState), ("cordwood/api.ErrFenced", laid_cordwood_api_ErrFenced), ("cordwood/api.ErrOutside", laid_cordwood_api_ErrOutside), ("cordwood/api.ErrUnavail", laid_cordwood_api_ErrUnavail), ("cordwood/api.ErrWord", laid_cordwood_api_ErrWord), ("cordwood/api.ErrNumber", laid_cordwood_api_ErrNumber), ("cordwood/api.ErrClosed", laid_cordwood_api_ErrClosed)] }
def UpGoesOnSaid : Prop := upGoesOnRow.holds Tryz.pinned (OpenSpec.ofChange upGoesOnSpec)

/-- ITS FALSE NEIGHBOUR: 'it returns false'. Refute it at one input. -/
def upGoesOnWrong : ChangeSpec := { name := "upGoesOn", fn := fun _ => fun
  | [d1, d2, d3, d4, d5] => { results := [.lit (.bool false)], args := [d1, d2, d3, d4, d5] }
  | _ => none }
def UpGoesOnWrongFalsely : Prop := upGoesOnRow.holds Tryz.pinned (OpenSpec.ofChange upGoesOnWrong)

/- THE SECOND FORM. 'bulk': how many values and letters a reading holds, each counted each time it is reached (what is shared counts as often as it is met; a slice's spare places count too). A statement '..UptoSaid' is the law's where the arguments, and the package variables that the reading takes, are together of bulk at most 1048576: NARROWER than '..Said'. Prove '..Said' where nothing that the law and all that it calls make is longer than what came in: it says more and counts as full. Else prove '..UptoSaid'. A law counts once. -/
mutual
def uptoBulk {H : Type} : DataW H → Nat
  | .lit (.string bytes) => bytes.length + 1
  | .lit _ => 1
  | .nil => 1
  | .ptr d => uptoBulk d + 1
  | .slice elems spare => uptoBulkAll elems + uptoBulkAll spare + 1
  | .agg parts => uptoBulkAll parts + 1
  | .iface _ d => uptoBulk d + 1
  | .map entries => uptoBulkEntries entries + 1
  | .held _ => 1
def uptoBulkAll {H : Type} : List (DataW H) → Nat
  | [] => 0
  | d :: r => uptoBulk d + uptoBulkAll r
def uptoBulkEntries {H : Type} : List (Lit × DataW H) → Nat
  | [] => 0
  | x :: r => uptoBulkEntry x + uptoBulkEntries r
def uptoBulkEntry {H : Type} : Lit × DataW H → Nat
  | (.string bytes, d) => bytes.length + uptoBulk d + 1
  | (_, d) => uptoBulk d + 1
 end
def uptoSmall : (H : Type) → List (DataW H) → Bool := fun _ ds => decide (uptoBulkAll ds ≤ 1048576)
def OpenSpec.upto (s : _root_.Go.ChangeSpec) : _root_.Go.OpenSpec := { _root_.Go.OpenSpec.ofChange s with cond := some uptoSmall }

/-- 'cordwoodlaw21.UpTwo', WHERE WHAT IT READS IS OF BULK AT MOST 1048576: true; the input reads as it did. -/
def upTwoUptoRow : OpenClaim := { program := "ythejaanobeonnaagreatdoor", sum := "63d53b57a4bf639f6b2337158e6a5ccebc42c98f59bf6f6b534df11b0a538ad4", func := "cordwood/cordwoodlaw21.UpTwo", spec := "upTwo", inPlace := ["maps.clone"], unfollowed := true, recurses := true, named := ["cordwood/api.ErrRange", "cordwood/api.ErrNone", "cordwood/api.ErrCrash", "cordwood/api.ErrEnd", "cordwood/api.ErrSum", "cordwood/api.ErrShape", "cordwood/api.ErrKind", "cordwood/api.ErrMany", "cordwood/api.ErrName", "cordwood/api.ErrThere", "cordwood/api.ErrState", "cordwood/api.ErrFull", "cordwood/api.ErrStore"], apart := false, laid := [("cordwood/api.ErrEnd", laid_cordwood_api_ErrEnd), ("cordwood/api.ErrSum", laid_cordwood_api_ErrSum), ("cordwood/api.ErrShape", laid_cordwood_api_ErrShape), ("cordwood/api.ErrMany", laid_cordwood_api_ErrMany), ("cordwood/api.ErrRange", laid_cordwood_api_ErrRange), ("cordwood/api.ErrName", laid_cordwood_api_ErrName), ("cordwood/api.ErrNone", laid_cordwood_api_ErrNone), ("cordwood/api.ErrThere", laid_cordwood_api_ErrThere), ("cordwood/api.ErrFull", laid_cordwood_api_ErrFull), ("cordwood/api.ErrCrash", laid_cordwood_api_ErrCrash), ("cordwood/api.ErrStore", laid_cordwood_api_ErrStore), ("cordwood/api.ErrKind", laid_cordwood_api_ErrKind), ("cordwood/api.ErrState", laid_cordwood_api_ErrState)], narrowed := true }
def UpTwoUptoSaid : Prop := upTwoUptoRow.holds Tryz.pinned (OpenSpec.upto upTwoSpec)

/-- 'cordwoodlaw21.UpRefuses', WHERE WHAT IT READS IS OF BULK AT MOST 1048576: true; the input reads as it did. -/
def upRefusesUptoRow : OpenClaim := { program := "ythejaanobeonnaagreatdoor", sum := "63d53b57a4bf639f6b2337158e6a5ccebc42c98f59bf6f6b534df11b0a538ad4", func := "cordwood/cordwoodlaw21.UpRefuses", spec := "upRefuses", inPlace := ["maps.clone"], unfollowed := true, recurses := true, named := ["cordwood/api.ErrRange", "cordwood/api.ErrNone", "cordwood/api.ErrCrash", "cordwood/api.ErrEnd", "cordwood/api.ErrSum", "cordwood/api.ErrShape", "cordwood/api.ErrKind", "cordwood/api.ErrMany", "cordwood/api.ErrName", "cordwood/api.ErrThere", "cordwood/api.ErrState", "cordwood/api.ErrFull", "cordwood/api.ErrStore", "cordwood/api.ErrFenced", "cordwood/api.ErrOutside", "cordwood/api.ErrUnavail", "cordwood/api.ErrWord", "cordwood/api.ErrNumber", "cordwood/api.ErrClosed"], apart := false, laid := [("cordwood/api.ErrEnd", laid_cordwood_api_ErrEnd), ("cordwood/api.ErrSum", laid_cordwood_api_ErrSum), ("cordwood/api.ErrShape", laid_cordwood_api_ErrShape), ("cordwood/api.ErrMany", laid_cordwood_api_ErrMany), ("cordwood/api.ErrRange", laid_cordwood_api_ErrRange), ("cordwood/api.ErrName", laid_cordwood_api_ErrName), ("cordwood/api.ErrNone", laid_cordwood_api_ErrNone), ("cordwood/api.ErrThere", laid_cordwood_api_ErrThere), ("cordwood/api.ErrFull", laid_cordwood_api_ErrFull), ("cordwood/api.ErrCrash", laid_cordwood_api_ErrCrash), ("cordwood/api.ErrStore", laid_cordwood_api_ErrStore), ("cordwood/api.ErrKind", laid_cordwood_api_ErrKind), ("cordwood/api.ErrState", laid_cordwood_api_ErrState), ("cordwood/api.ErrFenced", laid_cordwood_api_ErrFenced), ("cordwood/api.ErrOutside", laid_cordwood_api_ErrOutside), ("cordwood/api.ErrUnavail", laid_cordwood_api_ErrUnavail), ("cordwood/api.ErrWord", laid_cordwood_api_ErrWord), ("cordwood/api.ErrNumber", laid_cordwood_api_ErrNumber), ("cordwood/api.ErrClosed", laid_cordwood_api_ErrClosed)], narrowed := true }
def UpRefusesUptoSaid : Prop := upRefusesUptoRow.holds Tryz.pinned (OpenSpec.upto upRefusesSpec)

/-- 'cordwoodlaw21.UpCounts', WHERE WHAT IT READS IS OF BULK AT MOST 1048576: true; the input reads as it did. -/
def upCountsUptoRow : OpenClaim := { program := "ythejaanobeonnaagreatdoor", sum := "63d53b57a4bf639f6b2337158e6a5ccebc42c98f59bf6f6b534df11b0a538ad4", func := "cordwood/cordwoodlaw21.UpCounts", spec := "upCounts", inPlace := ["maps.clone"], unfollowed := true, recurses := true, named := ["cordwood/api.ErrRange", "cordwood/api.ErrNone", "cordwood/api.ErrCrash", "cordwood/api.ErrEnd", "cordwood/api.ErrSum", "cordwood/api.ErrShape", "cordwood/api.ErrKind", "cordwood/api.ErrMany", "cordwood/api.ErrName", "cordwood/api.ErrThere", "cordwood/api.ErrState", "cordwood/api.ErrFull", "cordwood/api.ErrStore"], apart := false, laid := [("cordwood/api.ErrEnd", laid_cordwood_api_ErrEnd), ("cordwood/api.ErrSum", laid_cordwood_api_ErrSum), ("cordwood/api.ErrShape", laid_cordwood_api_ErrShape), ("cordwood/api.ErrMany", laid_cordwood_api_ErrMany), ("cordwood/api.ErrRange", laid_cordwood_api_ErrRange), ("cordwood/api.ErrName", laid_cordwood_api_ErrName), ("cordwood/api.ErrNone", laid_cordwood_api_ErrNone), ("cordwood/api.ErrThere", laid_cordwood_api_ErrThere), ("cordwood/api.ErrFull", laid_cordwood_api_ErrFull), ("cordwood/api.ErrCrash", laid_cordwood_api_ErrCrash), ("cordwood/api.ErrStore", laid_cordwood_api_ErrStore), ("cordwood/api.ErrKind", laid_cordwood_api_ErrKind), ("cordwood/api.ErrState", laid_cordwood_api_ErrState)], narrowed := true }
def UpCountsUptoSaid : Prop := upCountsUptoRow.holds Tryz.pinned (OpenSpec.upto upCountsSpec)

/-- 'cordwoodlaw21.UpEnds', WHERE WHAT IT READS IS OF BULK AT MOST 1048576: true; the input reads as it did. -/
def upEndsUptoRow : OpenClaim := { program := "ythejaanobeonnaagreatdoor", sum := "63d53b57a4bf639f6b2337158e6a5ccebc42c98f59bf6f6b534df11b0a538ad4", func := "cordwood/cordwoodlaw21.UpEnds", spec := "upEnds", inPlace := ["maps.clone"], unfollowed := true, recurses := true, named := ["cordwood/api.ErrRange", "cordwood/api.ErrNone", "cordwood/api.ErrCrash", "cordwood/api.ErrEnd", "cordwood/api.ErrSum", "cordwood/api.ErrShape", "cordwood/api.ErrKind", "cordwood/api.ErrMany", "cordwood/api.ErrName", "cordwood/api.ErrThere", "cordwood/api.ErrState", "cordwood/api.ErrFull", "cordwood/api.ErrStore", "cordwood/api.ErrFenced", "cordwood/api.ErrOutside", "cordwood/api.ErrUnavail", "cordwood/api.ErrWord", "cordwood/api.ErrNumber", "cordwood/api.ErrClosed"], apart := false, laid := [("cordwood/api.ErrEnd", laid_cordwood_api_ErrEnd), ("cordwood/api.ErrSum", laid_cordwood_api_ErrSum), ("cordwood/api.ErrShape", laid_cordwood_api_ErrShape), ("cordwood/api.ErrMany", laid_cordwood_api_ErrMany), ("cordwood/api.ErrRange", laid_cordwood_api_ErrRange), ("cordwood/api.ErrName", laid_cordwood_api_ErrName), ("cordwood/api.ErrNone", laid_cordwood_api_ErrNone), ("cordwood/api.ErrThere", laid_cordwood_api_ErrThere), ("cordwood/api.ErrFull", laid_cordwood_api_ErrFull), ("cordwood/api.ErrCrash", laid_cordwood_api_ErrCrash), ("cordwood/api.ErrStore", laid_cordwood_api_ErrStore), ("cordwood/api.ErrKind", laid_cordwood_api_ErrKind), ("cordwood/api.ErrState", laid_cordwood_api_ErrState), ("cordwood/api.ErrFenced", laid_cordwood_api_ErrFenced), ("cordwood/api.ErrOutside", laid_cordwood_api_ErrOutside), ("cordwood/api.ErrUnavail", laid_cordwood_api_ErrUnavail), ("cordwood/api.ErrWord", laid_cordwood_api_ErrWord), ("cordwood/api.ErrNumber", laid_cordwood_api_ErrNumber), ("cordwood/api.ErrClosed", laid_cordwood_api_ErrClosed)], narrowed := true }
def UpEndsUptoSaid : Prop := upEndsUptoRow.holds Tryz.pinned (OpenSpec.upto upEndsSpec)

/-- 'cordwoodlaw21.UpGoesOn', WHERE WHAT IT READS IS OF BULK AT MOST 1048576: true; the input reads as it did. -/
def upGoesOnUptoRow : OpenClaim := { program := "ythejaanobeonnaagreatdoor", sum := "63d53b57a4bf639f6b2337158e6a5ccebc42c98f59bf6f6b534df11b0a538ad4", func := "cordwood/cordwoodlaw21.UpGoesOn", spec := "upGoesOn", inPlace := ["maps.clone"], unfollowed := true, recurses := true, named := ["cordwood/api.ErrRange", "cordwood/api.ErrNone", "cordwood/api.ErrCrash", "cordwood/api.ErrEnd", "cordwood/api.ErrSum", "cordwood/api.ErrShape", "cordwood/api.ErrKind", "cordwood/api.ErrMany", "cordwood/api.ErrName", "cordwood/api.ErrThere", "cordwood/api.ErrState", "cordwood/api.ErrFull", "cordwood/api.ErrStore", "cordwood/api.ErrFenced", "cordwood/api.ErrOutside", "cordwood/api.ErrUnavail", "cordwood/api.ErrWord", "cordwood/api.ErrNumber", "cordwood/api.ErrClosed"], apart := false, laid := [("cordwood/api.ErrEnd", laid_cordwood_api_ErrEnd), ("cordwood/api.ErrSum", laid_cordwood_api_ErrSum), ("cordwood/api.ErrShape", laid_cordwood_api_ErrShape), ("cordwood/api.ErrMany", laid_cordwood_api_ErrMany), ("cordwood/api.ErrRange", laid_cordwood_api_ErrRange), ("cordwood/api.ErrName", laid_cordwood_api_ErrName), ("cordwood/api.ErrNone", laid_cordwood_api_ErrNone), ("cordwood/api.ErrThere", laid_cordwood_api_ErrThere), ("cordwood/api.ErrFull", laid_cordwood_api_ErrFull), ("cordwood/api.ErrCrash", laid_cordwood_api_ErrCrash), ("cordwood/api.ErrStore", laid_cordwood_api_ErrStore), ("cordwood/api.ErrKind", laid_cordwood_api_ErrKind), ("cordwood/api.ErrState", laid_cordwood_api_ErrState), ("cordwood/api.ErrFenced", laid_cordwood_api_ErrFenced), ("cordwood/api.ErrOutside", laid_cordwood_api_ErrOutside), ("cordwood/api.ErrUnavail", laid_cordwood_api_ErrUnavail), ("cordwood/api.ErrWord", laid_cordwood_api_ErrWord), ("cordwood/api.ErrNumber", laid_cordwood_api_ErrNumber), ("cordwood/api.ErrClosed", laid_cordwood_api_ErrClosed)], narrowed := true }
def UpGoesOnUptoSaid : Prop := upGoesOnUptoRow.holds Tryz.pinned (OpenSpec.upto upGoesOnSpec)

end Rows
end Go.Proofs.YthejaanobeonnaaGreatDoor
