/-
  NARROWER THAN 'FOR EVERY INPUT', by the rows' own cells (each row's printed sentence says how): PointNums: laid · JourBytes: laid · JourBounds: laid · JourAnew: laid · PointMany: laid · PointNames: laid · JourKeeps: laid · DiskNames: laid · DiskMoves: laid · DiskTwins: laid.
  DERIVED. THE GIVEN ROWS OF THIS SEAT. 10 by the template 'for every input the law returns true; each argument reads behind the call as it read before'; 0 by the template 'total and deterministic' (their statements: YtmnfehbnjgmgjaaDoorTotals.lean).
  GIVEN WITH THE SEED: the statements are not yours to turn. If you find one false, say at which input.
  Laid BY PROGRAM, IN A SANDBOX (cutbox-rows.mjs): the forced cells as the released guide's own fill.sh prints them over the translation 79dda3c739709f40… (all of the seat's roots in one cut). By AI agents, Wed Nov 11 2026. No macro, syntax, notation, axiom, sorry.
-/
import Derived.Test.YtmnfehbnjgmgjaaDoorChecked
import GoSem.Claim
import GoSem.ClaimJoined
import GoSem.ClaimMapViews
import Derived.JoinedTies
import Derived.KernelRfl
namespace Go.Proofs.YtmnfehbnjgmgjaaDoor
/- THE CELL 'sum', in the pinned program and in every row, IS THE sha256 OF THE DUMP (.gsa) THAT YtmnfehbnjgmgjaaDoorProg.lean LOADS. Nothing in Lean hashes anything: it is a label: what it is worth is what the hold of that sum in a sandbox is worth. -/
noncomputable def Tryd.pinned : Pinned := { name := "ytmnfehbnjgmgjaadoor", sum := "79dda3c739709f40f2a886be47449096fc48db16f7f0f7541f0b1c5f48cb72dc", checked := Tryd.checked }
namespace Rows
def none {H : Type} : Left H := { results := [], args := [] }

/- WHAT THE LISTED PACKAGE-LEVEL VARIABLES READ AS WHEN THE CALL BEGINS. Each datum BY PROGRAM (the guide's laid-datum.mjs) off the statement by which the dump's own 'gosem.cut.vars' lays the variable. In a bare row this is a premise. The card (YtmnfehbnjgmgjaaDoorCards.lean) ties it to the program's text. -/
def laid_cordwood_api_ErrEnd {H : Type} : DataW H := .iface "*errors.errorString" (.ptr (.agg [.lit (.string [105, 116, 32, 101, 110, 100, 115, 32, 116, 111, 111, 32, 101, 97, 114, 108, 121])]))
def laid_cordwood_api_ErrSum {H : Type} : DataW H := .iface "*errors.errorString" (.ptr (.agg [.lit (.string [116, 104, 101, 32, 115, 117, 109, 32, 105, 115, 32, 97, 110, 111, 116, 104, 101, 114, 32, 111, 110, 101])]))
def laid_cordwood_api_ErrShape {H : Type} : DataW H := .iface "*errors.errorString" (.ptr (.agg [.lit (.string [110, 111, 116, 32, 97, 115, 32, 105, 116, 32, 104, 97, 115, 32, 116, 111, 32, 98, 101])]))
def laid_cordwood_api_ErrMany {H : Type} : DataW H := .iface "*errors.errorString" (.ptr (.agg [.lit (.string [116, 111, 111, 32, 109, 97, 110, 121])]))
def laid_cordwood_api_ErrRange {H : Type} : DataW H := .iface "*errors.errorString" (.ptr (.agg [.lit (.string [97, 32, 110, 117, 109, 98, 101, 114, 32, 111, 117, 116, 32, 111, 102, 32, 105, 116, 115, 32, 114, 97, 110, 103, 101])]))
def laid_cordwood_api_ErrName {H : Type} : DataW H := .iface "*errors.errorString" (.ptr (.agg [.lit (.string [110, 111, 32, 110, 97, 109, 101, 32, 116, 104, 97, 116, 32, 109, 97, 121, 32, 98, 101])]))
def laid_cordwood_api_ErrNone {H : Type} : DataW H := .iface "*errors.errorString" (.ptr (.agg [.lit (.string [116, 104, 101, 114, 101, 32, 105, 115, 32, 110, 111, 110, 101])]))
def laid_cordwood_api_ErrThere {H : Type} : DataW H := .iface "*errors.errorString" (.ptr (.agg [.lit (.string [116, 104, 101, 114, 101, 32, 105, 115, 32, 111, 110, 101])]))
def laid_cordwood_api_ErrFull {H : Type} : DataW H := .iface "*errors.errorString" (.ptr (.agg [.lit (.string [116, 104, 101, 114, 101, 32, 105, 115, 32, 110, 111, 32, 114, 111, 111, 109])]))
def laid_cordwood_api_ErrCrash {H : Type} : DataW H := .iface "*errors.errorString" (.ptr (.agg [.lit (.string [116, 104, 101, 32, 112, 111, 119, 101, 114, 32, 105, 115, 32, 103, 111, 110, 101])]))
def laid_cordwood_api_ErrStore {H : Type} : DataW H := .iface "*errors.errorString" (.ptr (.agg [.lit (.string [116, 104, 101, 32, 115, 116, 111, 114, 101, 32, 100, 111, 101, 115, 32, 110, 111, 116, 32, 97, 110, 115, 119, 101, 114])]))
def laid_cordwood_api_ErrKind {H : Type} : DataW H := .iface "*errors.errorString" (.ptr (.agg [.lit (.string [110, 111, 32, 115, 117, 99, 104, 32, 107, 105, 110, 100])]))
def laid_cordwood_api_ErrState {H : Type} : DataW H := .iface "*errors.errorString" (.ptr (.agg [.lit (.string [110, 111, 116, 32, 105, 110, 32, 116, 104, 105, 115, 32, 115, 116, 97, 116, 101])]))
def laid_cordwood_api_ErrFenced {H : Type} : DataW H := .iface "*errors.errorString" (.ptr (.agg [.lit (.string [97, 110, 32, 101, 108, 100, 101, 114, 32, 101, 112, 111, 99, 104])]))
def laid_cordwood_api_ErrOutside {H : Type} : DataW H := .iface "*errors.errorString" (.ptr (.agg [.lit (.string [110, 111, 32, 115, 117, 99, 104, 32, 111, 102, 102, 115, 101, 116])]))
def laid_cordwood_api_ErrUnavail {H : Type} : DataW H := .iface "*errors.errorString" (.ptr (.agg [.lit (.string [110, 111, 116, 32, 116, 111, 32, 98, 101, 32, 104, 97, 100, 32, 110, 111, 119])]))
def laid_cordwood_api_ErrWord {H : Type} : DataW H := .iface "*errors.errorString" (.ptr (.agg [.lit (.string [110, 111, 32, 115, 117, 99, 104, 32, 119, 111, 114, 100])]))
def laid_cordwood_api_ErrNumber {H : Type} : DataW H := .iface "*errors.errorString" (.ptr (.agg [.lit (.string [110, 111, 32, 115, 117, 99, 104, 32, 110, 117, 109, 98, 101, 114])]))
def laid_cordwood_api_ErrClosed {H : Type} : DataW H := .iface "*errors.errorString" (.ptr (.agg [.lit (.string [105, 116, 32, 105, 115, 32, 99, 108, 111, 115, 101, 100])]))

/-- 'cordwoodlaw8.PointNums': WHATEVER THE INPUT: true; the input reads as it did. -/
def pointNumsSpec : ChangeSpec := { name := "pointNums", fn := fun _ => fun
  | [d1, d2] => { results := [.lit (.bool true)], args := [d1, d2] }
  | _ => none }
def pointNumsRow : OpenClaim := { program := "ytmnfehbnjgmgjaadoor", sum := "79dda3c739709f40f2a886be47449096fc48db16f7f0f7541f0b1c5f48cb72dc", func := "cordwood/cordwoodlaw8.PointNums", spec := "pointNums", named := ["cordwood/api.ErrMany", "cordwood/api.ErrRange", "cordwood/api.ErrEnd", "cordwood/api.ErrShape", "cordwood/api.ErrSum", "cordwood/api.ErrName", "cordwood/api.ErrNone", "cordwood/api.ErrThere", "cordwood/api.ErrFull", "cordwood/api.ErrCrash", "cordwood/api.ErrStore", "cordwood/api.ErrKind", "cordwood/api.ErrState", "cordwood/api.ErrFenced", "cordwood/api.ErrOutside", "cordwood/api.ErrUnavail", "cordwood/api.ErrWord", "cordwood/api.ErrNumber", "cordwood/api.ErrClosed"], apart := false, laid := [("cordwood/api.ErrEnd", laid_cordwood_api_ErrEnd), ("cordwood/api.ErrSum", laid_cordwood_api_ErrSum), ("cordwood/api.ErrShape", laid_cordwood_api_ErrShape), ("cordwood/api.ErrMany", laid_cordwood_api_ErrMany), ("cordwood/api.ErrRange", laid_cordwood_api_ErrRange), ("cordwood/api.ErrName", laid_cordwood_api_ErrName), ("cordwood/api.ErrNone", laid_cordwood_api_ErrNone), ("cordwood/api.ErrThere", laid_cordwood_api_ErrThere), ("cordwood/api.ErrFull", laid_cordwood_api_ErrFull), ("cordwood/api.ErrCrash", laid_cordwood_api_ErrCrash), ("cordwood/api.ErrStore", laid_cordwood_api_ErrStore), ("cordwood/api.ErrKind", laid_cordwood_api_ErrKind), ("cordwood/api.ErrState", laid_cordwood_api_ErrState), ("cordwood/api.ErrFenced", laid_cordwood_api_ErrFenced), ("cordwood/api.ErrOutside", laid_cordwood_api_ErrOutside), ("cordwood/api.ErrUnavail", laid_cordwood_api_ErrUnavail), ("cordwood/api.ErrWord", laid_cordwood_api_ErrWord), ("cordwood/api.ErrNumber", laid_cordwood_api_ErrNumber), ("cordwood/api.ErrClosed", laid_cordwood_api_ErrClosed)] }
def PointNumsSaid : Prop := pointNumsRow.holds Tryd.pinned (OpenSpec.ofChange pointNumsSpec)

/-- ITS FALSE NEIGHBOUR: 'it returns false'. Refute it at one input. -/
def pointNumsWrong : ChangeSpec := { name := "pointNums", fn := fun _ => fun
  | [d1, d2] => { results := [.lit (.bool false)], args := [d1, d2] }
  | _ => none }
def PointNumsWrongFalsely : Prop := pointNumsRow.holds Tryd.pinned (OpenSpec.ofChange pointNumsWrong)

/-- 'cordwoodlaw20.JourBytes': WHATEVER THE INPUT: true; the input reads as it did. -/
def jourBytesSpec : ChangeSpec := { name := "jourBytes", fn := fun _ => fun
  | [d1, d2, d3] => { results := [.lit (.bool true)], args := [d1, d2, d3] }
  | _ => none }
def jourBytesRow : OpenClaim := { program := "ytmnfehbnjgmgjaadoor", sum := "79dda3c739709f40f2a886be47449096fc48db16f7f0f7541f0b1c5f48cb72dc", func := "cordwood/cordwoodlaw20.JourBytes", spec := "jourBytes", inPlace := ["maps.clone"], unfollowed := true, recurses := true, named := ["cordwood/api.ErrRange", "cordwood/api.ErrCrash", "cordwood/api.ErrNone", "cordwood/api.ErrEnd", "cordwood/api.ErrSum", "cordwood/api.ErrMany", "cordwood/api.ErrShape", "cordwood/api.ErrName", "cordwood/api.ErrThere", "cordwood/api.ErrFull"], apart := false, laid := [("cordwood/api.ErrEnd", laid_cordwood_api_ErrEnd), ("cordwood/api.ErrSum", laid_cordwood_api_ErrSum), ("cordwood/api.ErrShape", laid_cordwood_api_ErrShape), ("cordwood/api.ErrMany", laid_cordwood_api_ErrMany), ("cordwood/api.ErrRange", laid_cordwood_api_ErrRange), ("cordwood/api.ErrName", laid_cordwood_api_ErrName), ("cordwood/api.ErrNone", laid_cordwood_api_ErrNone), ("cordwood/api.ErrThere", laid_cordwood_api_ErrThere), ("cordwood/api.ErrFull", laid_cordwood_api_ErrFull), ("cordwood/api.ErrCrash", laid_cordwood_api_ErrCrash)] }
def JourBytesSaid : Prop := jourBytesRow.holds Tryd.pinned (OpenSpec.ofChange jourBytesSpec)

/-- ITS FALSE NEIGHBOUR: 'it returns false'. Refute it at one input. -/
def jourBytesWrong : ChangeSpec := { name := "jourBytes", fn := fun _ => fun
  | [d1, d2, d3] => { results := [.lit (.bool false)], args := [d1, d2, d3] }
  | _ => none }
def JourBytesWrongFalsely : Prop := jourBytesRow.holds Tryd.pinned (OpenSpec.ofChange jourBytesWrong)

/-- 'cordwoodlaw20.JourBounds': WHATEVER THE INPUT: true; the input reads as it did. -/
def jourBoundsSpec : ChangeSpec := { name := "jourBounds", fn := fun _ => fun
  | [d1, d2] => { results := [.lit (.bool true)], args := [d1, d2] }
  | _ => none }
def jourBoundsRow : OpenClaim := { program := "ytmnfehbnjgmgjaadoor", sum := "79dda3c739709f40f2a886be47449096fc48db16f7f0f7541f0b1c5f48cb72dc", func := "cordwood/cordwoodlaw20.JourBounds", spec := "jourBounds", inPlace := ["maps.clone"], unfollowed := true, recurses := true, named := ["cordwood/api.ErrRange", "cordwood/api.ErrCrash", "cordwood/api.ErrNone", "cordwood/api.ErrEnd", "cordwood/api.ErrSum", "cordwood/api.ErrMany", "cordwood/api.ErrShape", "cordwood/api.ErrName", "cordwood/api.ErrThere", "cordwood/api.ErrFull", "cordwood/api.ErrStore", "cordwood/api.ErrKind", "cordwood/api.ErrState", "cordwood/api.ErrFenced", "cordwood/api.ErrOutside", "cordwood/api.ErrUnavail", "cordwood/api.ErrWord", "cordwood/api.ErrNumber", "cordwood/api.ErrClosed"], apart := false, laid := [("cordwood/api.ErrEnd", laid_cordwood_api_ErrEnd), ("cordwood/api.ErrSum", laid_cordwood_api_ErrSum), ("cordwood/api.ErrShape", laid_cordwood_api_ErrShape), ("cordwood/api.ErrMany", laid_cordwood_api_ErrMany), ("cordwood/api.ErrRange", laid_cordwood_api_ErrRange), ("cordwood/api.ErrName", laid_cordwood_api_ErrName), ("cordwood/api.ErrNone", laid_cordwood_api_ErrNone), ("cordwood/api.ErrThere", laid_cordwood_api_ErrThere), ("cordwood/api.ErrFull", laid_cordwood_api_ErrFull), ("cordwood/api.ErrCrash", laid_cordwood_api_ErrCrash), ("cordwood/api.ErrStore", laid_cordwood_api_ErrStore), ("cordwood/api.ErrKind", laid_cordwood_api_ErrKind), ("cordwood/api.ErrState", laid_cordwood_api_ErrState), ("cordwood/api.ErrFenced", laid_cordwood_api_ErrFenced), ("cordwood/api.ErrOutside", laid_cordwood_api_ErrOutside), ("cordwood/api.ErrUnavail", laid_cordwood_api_ErrUnavail), ("cordwood/api.ErrWord", laid_cordwood_api_ErrWord), ("cordwood/api.ErrNumber", laid_cordwood_api_ErrNumber), ("cordwood/api.ErrClosed", laid_cordwood_api_ErrClosed)] }
def JourBoundsSaid : Prop := jourBoundsRow.holds Tryd.pinned (OpenSpec.ofChange jourBoundsSpec)

/-- ITS FALSE NEIGHBOUR: 'it returns false'. Refute it at one input. -/
def jourBoundsWrong : ChangeSpec := { name := "jourBounds", fn := fun _ => fun
  | [d1, d2] => { results := [.lit (.bool false)], args := [d1, d2] }
  | _ => none }
def JourBoundsWrongFalsely : Prop := jourBoundsRow.holds Tryd.pinned (OpenSpec.ofChange jourBoundsWrong)

/-- 'cordwoodlaw20.JourAnew': WHATEVER THE INPUT: true; the input reads as it did. -/
def jourAnewSpec : ChangeSpec := { name := "jourAnew", fn := fun _ => fun
  | [d1, d2] => { results := [.lit (.bool true)], args := [d1, d2] }
  | _ => none }
def jourAnewRow : OpenClaim := { program := "ytmnfehbnjgmgjaadoor", sum := "79dda3c739709f40f2a886be47449096fc48db16f7f0f7541f0b1c5f48cb72dc", func := "cordwood/cordwoodlaw20.JourAnew", spec := "jourAnew", inPlace := ["maps.clone"], unfollowed := true, recurses := true, named := ["cordwood/api.ErrRange", "cordwood/api.ErrCrash", "cordwood/api.ErrNone", "cordwood/api.ErrEnd", "cordwood/api.ErrSum", "cordwood/api.ErrMany", "cordwood/api.ErrShape", "cordwood/api.ErrName", "cordwood/api.ErrThere", "cordwood/api.ErrFull"], apart := false, laid := [("cordwood/api.ErrEnd", laid_cordwood_api_ErrEnd), ("cordwood/api.ErrSum", laid_cordwood_api_ErrSum), ("cordwood/api.ErrShape", laid_cordwood_api_ErrShape), ("cordwood/api.ErrMany", laid_cordwood_api_ErrMany), ("cordwood/api.ErrRange", laid_cordwood_api_ErrRange), ("cordwood/api.ErrName", laid_cordwood_api_ErrName), ("cordwood/api.ErrNone", laid_cordwood_api_ErrNone), ("cordwood/api.ErrThere", laid_cordwood_api_ErrThere), ("cordwood/api.ErrFull", laid_cordwood_api_ErrFull), ("cordwood/api.ErrCrash", laid_cordwood_api_ErrCrash)] }
def JourAnewSaid : Prop := jourAnewRow.holds Tryd.pinned (OpenSpec.ofChange jourAnewSpec)

/-- ITS FALSE NEIGHBOUR: 'it returns false'. Refute it at one input. -/
def jourAnewWrong : ChangeSpec := { name := "jourAnew", fn := fun _ => fun
  | [d1, d2] => { results := [.lit (.bool false)], args := [d1, d2] }
  | _ => none }
def JourAnewWrongFalsely : Prop := jourAnewRow.holds Tryd.pinned (OpenSpec.ofChange jourAnewWrong)

/-- 'cordwoodlaw8.PointMany': WHATEVER THE INPUT: true; the input reads as it did. -/
def pointManySpec : ChangeSpec := { name := "pointMany", fn := fun _ => fun
  | [d1, d2, d3, d4] => { results := [.lit (.bool true)], args := [d1, d2, d3, d4] }
  | _ => none }
def pointManyRow : OpenClaim := { program := "ytmnfehbnjgmgjaadoor", sum := "79dda3c739709f40f2a886be47449096fc48db16f7f0f7541f0b1c5f48cb72dc", func := "cordwood/cordwoodlaw8.PointMany", spec := "pointMany", inPlace := ["maps.clone"], unfollowed := true, recurses := true, named := ["cordwood/api.ErrRange", "cordwood/api.ErrName", "cordwood/api.ErrNone", "cordwood/api.ErrCrash", "cordwood/api.ErrThere", "cordwood/api.ErrFull", "cordwood/api.ErrEnd", "cordwood/api.ErrSum"], apart := false, laid := [("cordwood/api.ErrEnd", laid_cordwood_api_ErrEnd), ("cordwood/api.ErrSum", laid_cordwood_api_ErrSum), ("cordwood/api.ErrRange", laid_cordwood_api_ErrRange), ("cordwood/api.ErrName", laid_cordwood_api_ErrName), ("cordwood/api.ErrNone", laid_cordwood_api_ErrNone), ("cordwood/api.ErrThere", laid_cordwood_api_ErrThere), ("cordwood/api.ErrFull", laid_cordwood_api_ErrFull), ("cordwood/api.ErrCrash", laid_cordwood_api_ErrCrash)] }
def PointManySaid : Prop := pointManyRow.holds Tryd.pinned (OpenSpec.ofChange pointManySpec)

/-- ITS FALSE NEIGHBOUR: 'it returns false'. Refute it at one input. -/
def pointManyWrong : ChangeSpec := { name := "pointMany", fn := fun _ => fun
  | [d1, d2, d3, d4] => { results := [.lit (.bool false)], args := [d1, d2, d3, d4] }
  | _ => none }
def PointManyWrongFalsely : Prop := pointManyRow.holds Tryd.pinned (OpenSpec.ofChange pointManyWrong)

/-- 'cordwoodlaw8.PointNames': WHATEVER THE INPUT: true; the input reads as it did. -/
def pointNamesSpec : ChangeSpec := { name := "pointNames", fn := fun _ => fun
  | [d1, d2, d3] => { results := [.lit (.bool true)], args := [d1, d2, d3] }
  | _ => none }
def pointNamesRow : OpenClaim := { program := "ytmnfehbnjgmgjaadoor", sum := "79dda3c739709f40f2a886be47449096fc48db16f7f0f7541f0b1c5f48cb72dc", func := "cordwood/cordwoodlaw8.PointNames", spec := "pointNames", inPlace := ["maps.clone"], unfollowed := true, recurses := true, named := ["cordwood/api.ErrRange", "cordwood/api.ErrName", "cordwood/api.ErrNone", "cordwood/api.ErrCrash", "cordwood/api.ErrThere", "cordwood/api.ErrFull", "cordwood/api.ErrEnd", "cordwood/api.ErrSum", "cordwood/api.ErrShape", "cordwood/api.ErrMany", "cordwood/api.ErrStore", "cordwood/api.ErrKind", "cordwood/api.ErrState", "cordwood/api.ErrFenced", "cordwood/api.ErrOutside", "cordwood/api.ErrUnavail", "cordwood/api.ErrWord", "cordwood/api.ErrNumber", "cordwood/api.ErrClosed"], apart := false, laid := [("cordwood/api.ErrEnd", laid_cordwood_api_ErrEnd), ("cordwood/api.ErrSum", laid_cordwood_api_ErrSum), ("cordwood/api.ErrShape", laid_cordwood_api_ErrShape), ("cordwood/api.ErrMany", laid_cordwood_api_ErrMany), ("cordwood/api.ErrRange", laid_cordwood_api_ErrRange), ("cordwood/api.ErrName", laid_cordwood_api_ErrName), ("cordwood/api.ErrNone", laid_cordwood_api_ErrNone), ("cordwood/api.ErrThere", laid_cordwood_api_ErrThere), ("cordwood/api.ErrFull", laid_cordwood_api_ErrFull), ("cordwood/api.ErrCrash", laid_cordwood_api_ErrCrash), ("cordwood/api.ErrStore", laid_cordwood_api_ErrStore), ("cordwood/api.ErrKind", laid_cordwood_api_ErrKind), ("cordwood/api.ErrState", laid_cordwood_api_ErrState), ("cordwood/api.ErrFenced", laid_cordwood_api_ErrFenced), ("cordwood/api.ErrOutside", laid_cordwood_api_ErrOutside), ("cordwood/api.ErrUnavail", laid_cordwood_api_ErrUnavail), ("cordwood/api.ErrWord", laid_cordwood_api_ErrWord), ("cordwood/api.ErrNumber", laid_cordwood_api_ErrNumber), ("cordwood/api.ErrClosed", laid_cordwood_api_ErrClosed)] }
def PointNamesSaid : Prop := pointNamesRow.holds Tryd.pinned (OpenSpec.ofChange pointNamesSpec)

/-- ITS FALSE NEIGHBOUR: 'it returns false'. Refute it at one input. -/
def pointNamesWrong : ChangeSpec := { name := "pointNames", fn := fun _ => fun
  | [d1, d2, d3] => { results := [.lit (.bool false)], args := [d1, d2, d3] }
  | _ => none }
def PointNamesWrongFalsely : Prop := pointNamesRow.holds Tryd.pinned (OpenSpec.ofChange pointNamesWrong)

/-- 'cordwoodlaw20.JourKeeps': WHATEVER THE INPUT: true; the input reads as it did. -/
def jourKeepsSpec : ChangeSpec := { name := "jourKeeps", fn := fun _ => fun
  | [d1, d2, d3] => { results := [.lit (.bool true)], args := [d1, d2, d3] }
  | _ => none }
def jourKeepsRow : OpenClaim := { program := "ytmnfehbnjgmgjaadoor", sum := "79dda3c739709f40f2a886be47449096fc48db16f7f0f7541f0b1c5f48cb72dc", func := "cordwood/cordwoodlaw20.JourKeeps", spec := "jourKeeps", inPlace := ["maps.clone"], unfollowed := true, recurses := true, named := ["cordwood/api.ErrRange", "cordwood/api.ErrCrash", "cordwood/api.ErrNone", "cordwood/api.ErrEnd", "cordwood/api.ErrSum", "cordwood/api.ErrMany", "cordwood/api.ErrShape", "cordwood/api.ErrName", "cordwood/api.ErrThere", "cordwood/api.ErrFull", "cordwood/api.ErrStore", "cordwood/api.ErrKind", "cordwood/api.ErrState", "cordwood/api.ErrFenced", "cordwood/api.ErrOutside", "cordwood/api.ErrUnavail", "cordwood/api.ErrWord", "cordwood/api.ErrNumber", "cordwood/api.ErrClosed"], apart := false, laid := [("cordwood/api.ErrEnd", laid_cordwood_api_ErrEnd), ("cordwood/api.ErrSum", laid_cordwood_api_ErrSum), ("cordwood/api.ErrShape", laid_cordwood_api_ErrShape), ("cordwood/api.ErrMany", laid_cordwood_api_ErrMany), ("cordwood/api.ErrRange", laid_cordwood_api_ErrRange), ("cordwood/api.ErrName", laid_cordwood_api_ErrName), ("cordwood/api.ErrNone", laid_cordwood_api_ErrNone), ("cordwood/api.ErrThere", laid_cordwood_api_ErrThere), ("cordwood/api.ErrFull", laid_cordwood_api_ErrFull), ("cordwood/api.ErrCrash", laid_cordwood_api_ErrCrash), ("cordwood/api.ErrStore", laid_cordwood_api_ErrStore), ("cordwood/api.ErrKind", laid_cordwood_api_ErrKind), ("cordwood/api.ErrState", laid_cordwood_api_ErrState), ("cordwood/api.ErrFenced", laid_cordwood_api_ErrFenced), ("cordwood/api.ErrOutside", laid_cordwood_api_ErrOutside), ("cordwood/api.ErrUnavail", laid_cordwood_api_ErrUnavail), ("cordwood/api.ErrWord", laid_cordwood_api_ErrWord), ("cordwood/api.ErrNumber", laid_cordwood_api_ErrNumber), ("cordwood/api.ErrClosed", laid_cordwood_api_ErrClosed)] }
def JourKeepsSaid : Prop := jourKeepsRow.holds Tryd.pinned (OpenSpec.ofChange jourKeepsSpec)

/-- ITS FALSE NEIGHBOUR: 'it returns false'. Refute it at one input. -/
def jourKeepsWrong : ChangeSpec := { name := "jourKeeps", fn := fun _ => fun
  | [d1, d2, d3] => { results := [.lit (.bool false)], args := [d1, d2, d3] }
  | _ => none }
def JourKeepsWrongFalsely : Prop := jourKeepsRow.holds Tryd.pinned (OpenSpec.ofChange jourKeepsWrong)

/-- 'cordwoodlaw4.DiskNames': WHATEVER THE INPUT: true; the input reads as it did. -/
def diskNamesSpec : ChangeSpec := { name := "diskNames", fn := fun _ => fun
  | [d1, d2] => { results := [.lit (.bool true)], args := [d1, d2] }
  | _ => none }
def diskNamesRow : OpenClaim := { program := "ytmnfehbnjgmgjaadoor", sum := "79dda3c739709f40f2a886be47449096fc48db16f7f0f7541f0b1c5f48cb72dc", func := "cordwood/cordwoodlaw4.DiskNames", spec := "diskNames", inPlace := ["maps.clone"], unfollowed := true, recurses := true, named := ["cordwood/api.ErrRange", "cordwood/api.ErrName", "cordwood/api.ErrThere", "cordwood/api.ErrCrash", "cordwood/api.ErrFull", "cordwood/api.ErrNone"], apart := false, laid := [("cordwood/api.ErrRange", laid_cordwood_api_ErrRange), ("cordwood/api.ErrName", laid_cordwood_api_ErrName), ("cordwood/api.ErrNone", laid_cordwood_api_ErrNone), ("cordwood/api.ErrThere", laid_cordwood_api_ErrThere), ("cordwood/api.ErrFull", laid_cordwood_api_ErrFull), ("cordwood/api.ErrCrash", laid_cordwood_api_ErrCrash)] }
def DiskNamesSaid : Prop := diskNamesRow.holds Tryd.pinned (OpenSpec.ofChange diskNamesSpec)

/-- ITS FALSE NEIGHBOUR: 'it returns false'. Refute it at one input. -/
def diskNamesWrong : ChangeSpec := { name := "diskNames", fn := fun _ => fun
  | [d1, d2] => { results := [.lit (.bool false)], args := [d1, d2] }
  | _ => none }
def DiskNamesWrongFalsely : Prop := diskNamesRow.holds Tryd.pinned (OpenSpec.ofChange diskNamesWrong)

/-- 'cordwoodlaw4.DiskMoves': WHATEVER THE INPUT: true; the input reads as it did. -/
def diskMovesSpec : ChangeSpec := { name := "diskMoves", fn := fun _ => fun
  | [d1, d2, d3, d4] => { results := [.lit (.bool true)], args := [d1, d2, d3, d4] }
  | _ => none }
def diskMovesRow : OpenClaim := { program := "ytmnfehbnjgmgjaadoor", sum := "79dda3c739709f40f2a886be47449096fc48db16f7f0f7541f0b1c5f48cb72dc", func := "cordwood/cordwoodlaw4.DiskMoves", spec := "diskMoves", inPlace := ["maps.clone"], unfollowed := true, recurses := true, named := ["cordwood/api.ErrRange", "cordwood/api.ErrName", "cordwood/api.ErrThere", "cordwood/api.ErrCrash", "cordwood/api.ErrFull", "cordwood/api.ErrNone"], apart := false, laid := [("cordwood/api.ErrRange", laid_cordwood_api_ErrRange), ("cordwood/api.ErrName", laid_cordwood_api_ErrName), ("cordwood/api.ErrNone", laid_cordwood_api_ErrNone), ("cordwood/api.ErrThere", laid_cordwood_api_ErrThere), ("cordwood/api.ErrFull", laid_cordwood_api_ErrFull), ("cordwood/api.ErrCrash", laid_cordwood_api_ErrCrash)] }
def DiskMovesSaid : Prop := diskMovesRow.holds Tryd.pinned (OpenSpec.ofChange diskMovesSpec)

/-- ITS FALSE NEIGHBOUR: 'it returns false'. Refute it at one input. -/
def diskMovesWrong : ChangeSpec := { name := "diskMoves", fn := fun _ => fun
  | [d1, d2, d3, d4] => { results := [.lit (.bool false)], args := [d1, d2, d3, d4] }
  | _ => none }
def DiskMovesWrongFalsely : Prop := diskMovesRow.holds Tryd.pinned (OpenSpec.ofChange diskMovesWrong)

/-- 'cordwoodlaw4.DiskTwins': WHATEVER THE INPUT: true; the input reads as it did. -/
def diskTwinsSpec : ChangeSpec := { name := "diskTwins", fn := fun _ => fun
  | [d1, d2] => { results := [.lit (.bool true)], args := [d1, d2] }
  | _ => none }
def diskTwinsRow : OpenClaim := { program := "ytmnfehbnjgmgjaadoor", sum := "79dda3c739709f40f2a886be47449096fc48db16f7f0f7541f0b1c5f48cb72dc", func := "cordwood/cordwoodlaw4.DiskTwins", spec := "diskTwins", inPlace := ["maps.clone"], unfollowed := true, recurses := true, named := ["cordwood/api.ErrRange", "cordwood/api.ErrName", "cordwood/api.ErrThere", "cordwood/api.ErrCrash", "cordwood/api.ErrFull", "cordwood/api.ErrNone"], apart := false, laid := [("cordwood/api.ErrRange", laid_cordwood_api_ErrRange), ("cordwood/api.ErrName", laid_cordwood_api_ErrName), ("cordwood/api.ErrNone", laid_cordwood_api_ErrNone), ("cordwood/api.ErrThere", laid_cordwood_api_ErrThere), ("cordwood/api.ErrFull", laid_cordwood_api_ErrFull), ("cordwood/api.ErrCrash", laid_cordwood_api_ErrCrash)] }
def DiskTwinsSaid : Prop := diskTwinsRow.holds Tryd.pinned (OpenSpec.ofChange diskTwinsSpec)

/-- ITS FALSE NEIGHBOUR: 'it returns false'. Refute it at one input. -/
def diskTwinsWrong : ChangeSpec := { name := "diskTwins", fn := fun _ => fun
  | [d1, d2] => { results := [.lit (.bool false)], args := [d1, d2] }
  | _ => none }
def DiskTwinsWrongFalsely : Prop := diskTwinsRow.holds Tryd.pinned (OpenSpec.ofChange diskTwinsWrong)

/- THE SECOND FORM. 'bulk': how many values and letters a reading holds, each counted each time it is reached (what is shared counts as often as it is met; a slice's spare places count too). A statement '..UptoSaid' is the law's where the arguments, and the package variables that the reading takes, are together of bulk at most 1048576: NARROWER than '..Said'. Prove '..Said' where nothing that the law and all that it calls make is longer than what came in: it says more and counts as full. Else prove '..UptoSaid'. A law counts once. -/
mutual
def uptoBulk {H : Type} : DataW H → Nat
  | .lit (.string bytes) => bytes.length + 1
  | .lit _ => 1
  | .nil => 1
  | .ptr d => uptoBulk d + 1
  | .slice elems spare => uptoBulkAll elems + uptoBulkAll spare + 1
  | .agg parts => uptoBulkAll parts + 1
  | .iface _ d => uptoBulk d + 1
  | .map entries => uptoBulkEntries entries + 1
  | .held _ => 1
def uptoBulkAll {H : Type} : List (DataW H) → Nat
  | [] => 0
  | d :: r => uptoBulk d + uptoBulkAll r
def uptoBulkEntries {H : Type} : List (Lit × DataW H) → Nat
  | [] => 0
  | x :: r => uptoBulkEntry x + uptoBulkEntries r
def uptoBulkEntry {H : Type} : Lit × DataW H → Nat
  | (.string bytes, d) => bytes.length + uptoBulk d + 1
  | (_, d) => uptoBulk d + 1
 end
def uptoSmall : (H : Type) → List (DataW H) → Bool := fun _ ds => decide (uptoBulkAll ds ≤ 1048576)
def OpenSpec.upto (s : _root_.Go.ChangeSpec) : _root_.Go.OpenSpec := { _root_.Go.OpenSpec.ofChange s with cond := some uptoSmall }

/-- 'cordwoodlaw8.PointNums', WHERE WHAT IT READS IS OF BULK AT MOST 1048576: true; the input reads as it did. -/
def pointNumsUptoRow : OpenClaim := { program := "ytmnfehbnjgmgjaadoor", sum := "79dda3c739709f40f2a886be47449096fc48db16f7f0f7541f0b1c5f48cb72dc", func := "cordwood/cordwoodlaw8.PointNums", spec := "pointNums", named := ["cordwood/api.ErrMany", "cordwood/api.ErrRange", "cordwood/api.ErrEnd", "cordwood/api.ErrShape", "cordwood/api.ErrSum", "cordwood/api.ErrName", "cordwood/api.ErrNone", "cordwood/api.ErrThere", "cordwood/api.ErrFull", "cordwood/api.ErrCrash", "cordwood/api.ErrStore", "cordwood/api.ErrKind", "cordwood/api.ErrState", "cordwood/api.ErrFenced", "cordwood/api.ErrOutside", "cordwood/api.ErrUnavail", "cordwood/api.ErrWord", "cordwood/api.ErrNumber", "cordwood/api.ErrClosed"], apart := false, laid := [("cordwood/api.ErrEnd", laid_cordwood_api_ErrEnd), ("cordwood/api.ErrSum", laid_cordwood_api_ErrSum), ("cordwood/api.ErrShape", laid_cordwood_api_ErrShape), ("cordwood/api.ErrMany", laid_cordwood_api_ErrMany), ("cordwood/api.ErrRange", laid_cordwood_api_ErrRange), ("cordwood/api.ErrName", laid_cordwood_api_ErrName), ("cordwood/api.ErrNone", laid_cordwood_api_ErrNone), ("cordwood/api.ErrThere", laid_cordwood_api_ErrThere), ("cordwood/api.ErrFull", laid_cordwood_api_ErrFull), ("cordwood/api.ErrCrash", laid_cordwood_api_ErrCrash), ("cordwood/api.ErrStore", laid_cordwood_api_ErrStore), ("cordwood/api.ErrKind", laid_cordwood_api_ErrKind), ("cordwood/api.ErrState", laid_cordwood_api_ErrState), ("cordwood/api.ErrFenced", laid_cordwood_api_ErrFenced), ("cordwood/api.ErrOutside", laid_cordwood_api_ErrOutside), ("cordwood/api.ErrUnavail", laid_cordwood_api_ErrUnavail), ("cordwood/api.ErrWord", laid_cordwood_api_ErrWord), ("cordwood/api.ErrNumber", laid_cordwood_api_ErrNumber), ("cordwood/api.ErrClosed", laid_cordwood_api_ErrClosed)], narrowed := true }
def PointNumsUptoSaid : Prop := pointNumsUptoRow.holds Tryd.pinned (OpenSpec.upto pointNumsSpec)

/-- 'cordwoodlaw20.JourBytes', WHERE WHAT IT READS IS OF BULK AT MOST 1048576: true; the input reads as it did. -/
def jourBytesUptoRow : OpenClaim := { program := "ytmnfehbnjgmgjaadoor", sum := "79dda3c739709f40f2a886be47449096fc48db16f7f0f7541f0b1c5f48cb72dc", func := "cordwood/cordwoodlaw20.JourBytes", spec := "jourBytes", inPlace := ["maps.clone"], unfollowed := true, recurses := true, named := ["cordwood/api.ErrRange", "cordwood/api.ErrCrash", "cordwood/api.ErrNone", "cordwood/api.ErrEnd", "cordwood/api.ErrSum", "cordwood/api.ErrMany", "cordwood/api.ErrShape", "cordwood/api.ErrName", "cordwood/api.ErrThere", "cordwood/api.ErrFull"], apart := false, laid := [("cordwood/api.ErrEnd", laid_cordwood_api_ErrEnd), ("cordwood/api.ErrSum", laid_cordwood_api_ErrSum), ("cordwood/api.ErrShape", laid_cordwood_api_ErrShape), ("cordwood/api.ErrMany", laid_cordwood_api_ErrMany), ("cordwood/api.ErrRange", laid_cordwood_api_ErrRange), ("cordwood/api.ErrName", laid_cordwood_api_ErrName), ("cordwood/api.ErrNone", laid_cordwood_api_ErrNone), ("cordwood/api.ErrThere", laid_cordwood_api_ErrThere), ("cordwood/api.ErrFull", laid_cordwood_api_ErrFull), ("cordwood/api.ErrCrash", laid_cordwood_api_ErrCrash)], narrowed := true }
def JourBytesUptoSaid : Prop := jourBytesUptoRow.holds Tryd.pinned (OpenSpec.upto jourBytesSpec)

/-- 'cordwoodlaw20.JourBounds', WHERE WHAT IT READS IS OF BULK AT MOST 1048576: true; the input reads as it did. -/
def jourBoundsUptoRow : OpenClaim := { program := "ytmnfehbnjgmgjaadoor", sum := "79dda3c739709f40f2a886be47449096fc48db16f7f0f7541f0b1c5f48cb72dc", func := "cordwood/cordwoodlaw20.JourBounds", spec := "jourBounds", inPlace := ["maps.clone"], unfollowed := true, recurses := true, named := ["cordwood/api.ErrRange", "cordwood/api.ErrCrash", "cordwood/api.ErrNone", "cordwood/api.ErrEnd", "cordwood/api.ErrSum", "cordwood/api.ErrMany", "cordwood/api.ErrShape", "cordwood/api.ErrName", "cordwood/api.ErrThere", "cordwood/api.ErrFull", "cordwood/api.ErrStore", "cordwood/api.ErrKind", "cordwood/api.ErrState", "cordwood/api.ErrFenced", "cordwood/api.ErrOutside", "cordwood/api.ErrUnavail", "cordwood/api.ErrWord", "cordwood/api.ErrNumber", "cordwood/api.ErrClosed"], apart := false, laid := [("cordwood/api.ErrEnd", laid_cordwood_api_ErrEnd), ("cordwood/api.ErrSum", laid_cordwood_api_ErrSum), ("cordwood/api.ErrShape", laid_cordwood_api_ErrShape), ("cordwood/api.ErrMany", laid_cordwood_api_ErrMany), ("cordwood/api.ErrRange", laid_cordwood_api_ErrRange), ("cordwood/api.ErrName", laid_cordwood_api_ErrName), ("cordwood/api.ErrNone", laid_cordwood_api_ErrNone), ("cordwood/api.ErrThere", laid_cordwood_api_ErrThere), ("cordwood/api.ErrFull", laid_cordwood_api_ErrFull), ("cordwood/api.ErrCrash", laid_cordwood_api_ErrCrash), ("cordwood/api.ErrStore", laid_cordwood_api_ErrStore), ("cordwood/api.ErrKind", laid_cordwood_api_ErrKind), ("cordwood/api.ErrState", laid_cordwood_api_ErrState), ("cordwood/api.ErrFenced", laid_cordwood_api_ErrFenced), ("cordwood/api.ErrOutside", laid_cordwood_api_ErrOutside), ("cordwood/api.ErrUnavail", laid_cordwood_api_ErrUnavail), ("cordwood/api.ErrWord", laid_cordwood_api_ErrWord), ("cordwood/api.ErrNumber", laid_cordwood_api_ErrNumber), ("cordwood/api.ErrClosed", laid_cordwood_api_ErrClosed)], narrowed := true }
def JourBoundsUptoSaid : Prop := jourBoundsUptoRow.holds Tryd.pinned (OpenSpec.upto jourBoundsSpec)

/-- 'cordwoodlaw20.JourAnew', WHERE WHAT IT READS IS OF BULK AT MOST 1048576: true; the input reads as it did. -/
def jourAnewUptoRow : OpenClaim := { program := "ytmnfehbnjgmgjaadoor", sum := "79dda3c739709f40f2a886be47449096fc48db16f7f0f7541f0b1c5f48cb72dc", func := "cordwood/cordwoodlaw20.JourAnew", spec := "jourAnew", inPlace := ["maps.clone"], unfollowed := true, recurses := true, named := ["cordwood/api.ErrRange", "cordwood/api.ErrCrash", "cordwood/api.ErrNone", "cordwood/api.ErrEnd", "cordwood/api.ErrSum", "cordwood/api.ErrMany", "cordwood/api.ErrShape", "cordwood/api.ErrName", "cordwood/api.ErrThere", "cordwood/api.ErrFull"], apart := false, laid := [("cordwood/api.ErrEnd", laid_cordwood_api_ErrEnd), ("cordwood/api.ErrSum", laid_cordwood_api_ErrSum), ("cordwood/api.ErrShape", laid_cordwood_api_ErrShape), ("cordwood/api.ErrMany", laid_cordwood_api_ErrMany), ("cordwood/api.ErrRange", laid_cordwood_api_ErrRange), ("cordwood/api.ErrName", laid_cordwood_api_ErrName), ("cordwood/api.ErrNone", laid_cordwood_api_ErrNone), ("cordwood/api.ErrThere", laid_cordwood_api_ErrThere), ("cordwood/api.ErrFull", laid_cordwood_api_ErrFull), ("cordwood/api.ErrCrash", laid_cordwood_api_ErrCrash)], narrowed := true }
def JourAnewUptoSaid : Prop := jourAnewUptoRow.holds Tryd.pinned (OpenSpec.upto jourAnewSpec)

/-- 'cordwoodlaw8.PointMany', WHERE WHAT IT READS IS OF BULK AT MOST 1048576: true; the input reads as it did. -/
def pointManyUptoRow : OpenClaim := { program := "ytmnfehbnjgmgjaadoor", sum := "79dda3c739709f40f2a886be47449096fc48db16f7f0f7541f0b1c5f48cb72dc", func := "cordwood/cordwoodlaw8.PointMany", spec := "pointMany", inPlace := ["maps.clone"], unfollowed := true, recurses := true, named := ["cordwood/api.ErrRange", "cordwood/api.ErrName", "cordwood/api.ErrNone", "cordwood/api.ErrCrash", "cordwood/api.ErrThere", "cordwood/api.ErrFull", "cordwood/api.ErrEnd", "cordwood/api.ErrSum"], apart := false, laid := [("cordwood/api.ErrEnd", laid_cordwood_api_ErrEnd), ("cordwood/api.ErrSum", laid_cordwood_api_ErrSum), ("cordwood/api.ErrRange", laid_cordwood_api_ErrRange), ("cordwood/api.ErrName", laid_cordwood_api_ErrName), ("cordwood/api.ErrNone", laid_cordwood_api_ErrNone), ("cordwood/api.ErrThere", laid_cordwood_api_ErrThere), ("cordwood/api.ErrFull", laid_cordwood_api_ErrFull), ("cordwood/api.ErrCrash", laid_cordwood_api_ErrCrash)], narrowed := true }
def PointManyUptoSaid : Prop := pointManyUptoRow.holds Tryd.pinned (OpenSpec.upto pointManySpec)

/-- 'cordwoodlaw8.PointNames', WHERE WHAT IT READS IS OF BULK AT MOST 1048576: true; the input reads as it did. -/
def pointNamesUptoRow : OpenClaim := { program := "ytmnfehbnjgmgjaadoor", sum := "79dda3c739709f40f2a886be47449096fc48db16f7f0f7541f0b1c5f48cb72dc", func := "cordwood/cordwoodlaw8.PointNames", spec := "pointNames", inPlace := ["maps.clone"], unfollowed := true, recurses := true, named := ["cordwood/api.ErrRange", "cordwood/api.ErrName", "cordwood/api.ErrNone", "cordwood/api.ErrCrash", "cordwood/api.ErrThere", "cordwood/api.ErrFull", "cordwood/api.ErrEnd", "cordwood/api.ErrSum", "cordwood/api.ErrShape", "cordwood/api.ErrMany", "cordwood/api.ErrStore", "cordwood/api.ErrKind", "cordwood/api.ErrState", "cordwood/api.ErrFenced", "cordwood/api.ErrOutside", "cordwood/api.ErrUnavail", "cordwood/api.ErrWord", "cordwood/api.ErrNumber", "cordwood/api.ErrClosed"], apart := false, laid := [("cordwood/api.ErrEnd", laid_cordwood_api_ErrEnd), ("cordwood/api.ErrSum", laid_cordwood_api_ErrSum), ("cordwood/api.ErrShape", laid_cordwood_api_ErrShape), ("cordwood/api.ErrMany", laid_cordwood_api_ErrMany), ("cordwood/api.ErrRange", laid_cordwood_api_ErrRange), ("cordwood/api.ErrName", laid_cordwood_api_ErrName), ("cordwood/api.ErrNone", laid_cordwood_api_ErrNone), ("cordwood/api.ErrThere", laid_cordwood_api_ErrThere), ("cordwood/api.ErrFull", laid_cordwood_api_ErrFull), ("cordwood/api.ErrCrash", laid_cordwood_api_ErrCrash), ("cordwood/api.ErrStore", laid_cordwood_api_ErrStore), ("cordwood/api.ErrKind", laid_cordwood_api_ErrKind), ("cordwood/api.ErrState", laid_cordwood_api_ErrState), ("cordwood/api.ErrFenced", laid_cordwood_api_ErrFenced), ("cordwood/api.ErrOutside", laid_cordwood_api_ErrOutside), ("cordwood/api.ErrUnavail", laid_cordwood_api_ErrUnavail), ("cordwood/api.ErrWord", laid_cordwood_api_ErrWord), ("cordwood/api.ErrNumber", laid_cordwood_api_ErrNumber), ("cordwood/api.ErrClosed", laid_cordwood_api_ErrClosed)], narrowed := true }
def PointNamesUptoSaid : Prop := pointNamesUptoRow.holds Tryd.pinned (OpenSpec.upto pointNamesSpec)

/-- 'cordwoodlaw20.JourKeeps', WHERE WHAT IT READS IS OF BULK AT MOST 1048576: true; the input reads as it did. -/
def jourKeepsUptoRow : OpenClaim := { program := "ytmnfehbnjgmgjaadoor", sum := "79dda3c739709f40f2a886be47449096fc48db16f7f0f7541f0b1c5f48cb72dc", func := "cordwood/cordwoodlaw20.JourKeeps", spec := "jourKeeps", inPlace := ["maps.clone"], unfollowed := true, recurses := true, named := ["cordwood/api.ErrRange", "cordwood/api.ErrCrash", "cordwood/api.ErrNone", "cordwood/api.ErrEnd", "cordwood/api.ErrSum", "cordwood/api.ErrMany", "cordwood/api.ErrShape", "cordwood/api.ErrName", "cordwood/api.ErrThere", "cordwood/api.ErrFull", "cordwood/api.ErrStore", "cordwood/api.ErrKind", "cordwood/api.ErrState", "cordwood/api.ErrFenced", "cordwood/api.ErrOutside", "cordwood/api.ErrUnavail", "cordwood/api.ErrWord", "cordwood/api.ErrNumber", "cordwood/api.ErrClosed"], apart := false, laid := [("cordwood/api.ErrEnd", laid_cordwood_api_ErrEnd), ("cordwood/api.ErrSum", laid_cordwood_api_ErrSum), ("cordwood/api.ErrShape", laid_cordwood_api_ErrShape), ("cordwood/api.ErrMany", laid_cordwood_api_ErrMany), ("cordwood/api.ErrRange", laid_cordwood_api_ErrRange), ("cordwood/api.ErrName", laid_cordwood_api_ErrName), ("cordwood/api.ErrNone", laid_cordwood_api_ErrNone), ("cordwood/api.ErrThere", laid_cordwood_api_ErrThere), ("cordwood/api.ErrFull", laid_cordwood_api_ErrFull), ("cordwood/api.ErrCrash", laid_cordwood_api_ErrCrash), ("cordwood/api.ErrStore", laid_cordwood_api_ErrStore), ("cordwood/api.ErrKind", laid_cordwood_api_ErrKind), ("cordwood/api.ErrState", laid_cordwood_api_ErrState), ("cordwood/api.ErrFenced", laid_cordwood_api_ErrFenced), ("cordwood/api.ErrOutside", laid_cordwood_api_ErrOutside), ("cordwood/api.ErrUnavail", laid_cordwood_api_ErrUnavail), ("cordwood/api.ErrWord", laid_cordwood_api_ErrWord), ("cordwood/api.ErrNumber", laid_cordwood_api_ErrNumber), ("cordwood/api.ErrClosed", laid_cordwood_api_ErrClosed)], narrowed := true }
def JourKeepsUptoSaid : Prop := jourKeepsUptoRow.holds Tryd.pinned (OpenSpec.upto jourKeepsSpec)

/-- 'cordwoodlaw4.DiskNames', WHERE WHAT IT READS IS OF BULK AT MOST 1048576: true; the input reads as it did. -/
def diskNamesUptoRow : OpenClaim := { program := "ytmnfehbnjgmgjaadoor", sum := "79dda3c739709f40f2a886be47449096fc48db16f7f0f7541f0b1c5f48cb72dc", func := "cordwood/cordwoodlaw4.DiskNames", spec := "diskNames", inPlace := ["maps.clone"], unfollowed := true, recurses := true, named := ["cordwood/api.ErrRange", "cordwood/api.ErrName", "cordwood/api.ErrThere", "cordwood/api.ErrCrash", "cordwood/api.ErrFull", "cordwood/api.ErrNone"], apart := false, laid := [("cordwood/api.ErrRange", laid_cordwood_api_ErrRange), ("cordwood/api.ErrName", laid_cordwood_api_ErrName), ("cordwood/api.ErrNone", laid_cordwood_api_ErrNone), ("cordwood/api.ErrThere", laid_cordwood_api_ErrThere), ("cordwood/api.ErrFull", laid_cordwood_api_ErrFull), ("cordwood/api.ErrCrash", laid_cordwood_api_ErrCrash)], narrowed := true }
def DiskNamesUptoSaid : Prop := diskNamesUptoRow.holds Tryd.pinned (OpenSpec.upto diskNamesSpec)

/-- 'cordwoodlaw4.DiskMoves', WHERE WHAT IT READS IS OF BULK AT MOST 1048576: true; the input reads as it did. -/
def diskMovesUptoRow : OpenClaim := { program := "ytmnfehbnjgmgjaadoor", sum := "79dda3c739709f40f2a886be47449096fc48db16f7f0f7541f0b1c5f48cb72dc", func := "cordwood/cordwoodlaw4.DiskMoves", spec := "diskMoves", inPlace := ["maps.clone"], unfollowed := true, recurses := true, named := ["cordwood/api.ErrRange", "cordwood/api.ErrName", "cordwood/api.ErrThere", "cordwood/api.ErrCrash", "cordwood/api.ErrFull", "cordwood/api.ErrNone"], apart := false, laid := [("cordwood/api.ErrRange", laid_cordwood_api_ErrRange), ("cordwood/api.ErrName", laid_cordwood_api_ErrName), ("cordwood/api.ErrNone", laid_cordwood_api_ErrNone), ("cordwood/api.ErrThere", laid_cordwood_api_ErrThere), ("cordwood/api.ErrFull", laid_cordwood_api_ErrFull), ("cordwood/api.ErrCrash", laid_cordwood_api_ErrCrash)], narrowed := true }
def DiskMovesUptoSaid : Prop := diskMovesUptoRow.holds Tryd.pinned (OpenSpec.upto diskMovesSpec)

/-- 'cordwoodlaw4.DiskTwins', WHERE WHAT IT READS IS OF BULK AT MOST 1048576: true; the input reads as it did. -/
def diskTwinsUptoRow : OpenClaim := { program := "ytmnfehbnjgmgjaadoor", sum := "79dda3c739709f40f2a886be47449096fc48db16f7f0f7541f0b1c5f48cb72dc", func := "cordwood/cordwoodlaw4.DiskTwins", spec := "diskTwins", inPlace := ["maps.clone"], unfollowed := true, recurses := true, named := ["cordwood/api.ErrRange", "cordwood/api.ErrName", "cordwood/api.ErrThere", "cordwood/api.ErrCrash", "cordwood/api.ErrFull", "cordwood/api.ErrNone"], apart := false, laid := [("cordwood/api.ErrRange", laid_cordwood_api_ErrRange), ("cordwood/api.ErrName", laid_cordwood_api_ErrName), ("cordwood/api.ErrNone", laid_cordwood_api_ErrNone), ("cordwood/api.ErrThere", laid_cordwood_api_ErrThere), ("cordwood/api.ErrFull", laid_cordwood_api_ErrFull), ("cordwood/api.ErrCrash", laid_cordwood_api_ErrCrash)], narrowed := true }
def DiskTwinsUptoSaid : Prop := diskTwinsUptoRow.holds Tryd.pinned (OpenSpec.upto diskTwinsSpec)

end Rows
end Go.Proofs.YtmnfehbnjgmgjaaDoor
