/-
  DERIVED. GIVEN WITH THE SEED: THE CARDS: each row of YtdkgdjnbpjjfmaaGreatDoorRows.lean that lists a variable, with what it lists TIED to the program's text (the seventh form; the later family's looks); each row that meets fmt, with fmt's text TOLD by the authors' own Lean function (tested against real Go, not proved from fmt's source: count such statements apart). THE CARD IS WHAT COUNTS. Prove the row's statement (the work); the ties are given (YtdkgdjnbpjjfmaaGreatDoorTie.lean); close each card by the builder's one call (the guide's Derived/Test/ToyasCard.lean, 'card_holds'). Laid BY PROGRAM, IN A SANDBOX (cutbox-door.mjs). By AI agents, Wed Nov 11 2026. No macro, syntax, notation, axiom, sorry.
-/
import Derived.Test.YtdkgdjnbpjjfmaaGreatDoorRows
import GoSem.ClaimSeven
namespace Go.Proofs.YtdkgdjnbpjjfmaaGreatDoor
namespace Rows

/-- THE TIED CARD OF 'cordwoodlaw17.MlogBytes'. -/
def mlogBytesCard : Claim7 := { stood := { row := mlogBytesRow, standIns := [], harness := (true, "546a70ea61887abaf88c3450da1b472130cf4b9e6516a49ab39590f71c3a2886"), looks := true }, kinds := [], alts := [], laidByText := true, laidKinds := [.sentinel, .sentinel, .sentinel, .sentinel, .sentinel, .sentinel, .sentinel, .sentinel, .sentinel, .sentinel, .sentinel, .sentinel], laidTests := true, laidLooks := .later }
def MlogBytesCardSaid : Prop := Claim7.holds Tryz.pinned (.plain (OpenSpec.ofChange mlogBytesSpec)) mlogBytesCard

/-- THE TIED CARD OF 'cordwoodlaw17.MlogSnaps'. -/
def mlogSnapsCard : Claim7 := { stood := { row := mlogSnapsRow, standIns := [], harness := (true, "546a70ea61887abaf88c3450da1b472130cf4b9e6516a49ab39590f71c3a2886"), looks := true }, kinds := [], alts := [], laidByText := true, laidKinds := [.sentinel, .sentinel, .sentinel, .sentinel, .sentinel, .sentinel, .sentinel, .sentinel, .sentinel, .sentinel, .sentinel, .sentinel], laidTests := true, laidLooks := .later }
def MlogSnapsCardSaid : Prop := Claim7.holds Tryz.pinned (.plain (OpenSpec.ofChange mlogSnapsSpec)) mlogSnapsCard

/-- THE TIED CARD OF 'cordwoodlaw17.MlogEvery'. -/
def mlogEveryCard : Claim7 := { stood := { row := mlogEveryRow, standIns := [], harness := (true, "546a70ea61887abaf88c3450da1b472130cf4b9e6516a49ab39590f71c3a2886"), looks := true }, kinds := [], alts := [], laidByText := true, laidKinds := [.sentinel, .sentinel, .sentinel, .sentinel, .sentinel, .sentinel, .sentinel, .sentinel, .sentinel, .sentinel, .sentinel, .sentinel, .sentinel, .sentinel, .sentinel, .sentinel, .sentinel, .sentinel, .sentinel], laidTests := true, laidLooks := .later }
def MlogEveryCardSaid : Prop := Claim7.holds Tryz.pinned (.plain (OpenSpec.ofChange mlogEverySpec)) mlogEveryCard

/-- THE TIED CARD OF 'cordwoodlaw17.MlogRefuses'. -/
def mlogRefusesCard : Claim7 := { stood := { row := mlogRefusesRow, standIns := [], harness := (true, "546a70ea61887abaf88c3450da1b472130cf4b9e6516a49ab39590f71c3a2886"), looks := true }, kinds := [], alts := [], laidByText := true, laidKinds := [.sentinel, .sentinel, .sentinel, .sentinel, .sentinel, .sentinel, .sentinel, .sentinel, .sentinel, .sentinel, .sentinel, .sentinel, .sentinel, .sentinel, .sentinel, .sentinel, .sentinel, .sentinel, .sentinel], laidTests := true, laidLooks := .later }
def MlogRefusesCardSaid : Prop := Claim7.holds Tryz.pinned (.plain (OpenSpec.ofChange mlogRefusesSpec)) mlogRefusesCard

/-- THE TIED CARD OF 'cordwoodlaw17.MlogKeeps'. -/
def mlogKeepsCard : Claim7 := { stood := { row := mlogKeepsRow, standIns := [], harness := (true, "546a70ea61887abaf88c3450da1b472130cf4b9e6516a49ab39590f71c3a2886"), looks := true }, kinds := [], alts := [], laidByText := true, laidKinds := [.sentinel, .sentinel, .sentinel, .sentinel, .sentinel, .sentinel, .sentinel, .sentinel, .sentinel, .sentinel, .sentinel, .sentinel, .sentinel, .sentinel, .sentinel, .sentinel, .sentinel, .sentinel, .sentinel], laidTests := true, laidLooks := .later }
def MlogKeepsCardSaid : Prop := Claim7.holds Tryz.pinned (.plain (OpenSpec.ofChange mlogKeepsSpec)) mlogKeepsCard

/-- THE SECOND FORM's CARD OF 'cordwoodlaw17.MlogBytes'. -/
def mlogBytesUptoCard : Claim7 := { stood := { row := mlogBytesUptoRow, standIns := [], harness := (true, "546a70ea61887abaf88c3450da1b472130cf4b9e6516a49ab39590f71c3a2886"), looks := true }, kinds := [], alts := [], laidByText := true, laidKinds := [.sentinel, .sentinel, .sentinel, .sentinel, .sentinel, .sentinel, .sentinel, .sentinel, .sentinel, .sentinel, .sentinel, .sentinel], laidTests := true, laidLooks := .later }
def MlogBytesUptoCardSaid : Prop := Claim7.holds Tryz.pinned (.plain (OpenSpec.upto mlogBytesSpec)) mlogBytesUptoCard

/-- THE SECOND FORM's CARD OF 'cordwoodlaw17.MlogSnaps'. -/
def mlogSnapsUptoCard : Claim7 := { stood := { row := mlogSnapsUptoRow, standIns := [], harness := (true, "546a70ea61887abaf88c3450da1b472130cf4b9e6516a49ab39590f71c3a2886"), looks := true }, kinds := [], alts := [], laidByText := true, laidKinds := [.sentinel, .sentinel, .sentinel, .sentinel, .sentinel, .sentinel, .sentinel, .sentinel, .sentinel, .sentinel, .sentinel, .sentinel], laidTests := true, laidLooks := .later }
def MlogSnapsUptoCardSaid : Prop := Claim7.holds Tryz.pinned (.plain (OpenSpec.upto mlogSnapsSpec)) mlogSnapsUptoCard

/-- THE SECOND FORM's CARD OF 'cordwoodlaw17.MlogEvery'. -/
def mlogEveryUptoCard : Claim7 := { stood := { row := mlogEveryUptoRow, standIns := [], harness := (true, "546a70ea61887abaf88c3450da1b472130cf4b9e6516a49ab39590f71c3a2886"), looks := true }, kinds := [], alts := [], laidByText := true, laidKinds := [.sentinel, .sentinel, .sentinel, .sentinel, .sentinel, .sentinel, .sentinel, .sentinel, .sentinel, .sentinel, .sentinel, .sentinel, .sentinel, .sentinel, .sentinel, .sentinel, .sentinel, .sentinel, .sentinel], laidTests := true, laidLooks := .later }
def MlogEveryUptoCardSaid : Prop := Claim7.holds Tryz.pinned (.plain (OpenSpec.upto mlogEverySpec)) mlogEveryUptoCard

/-- THE SECOND FORM's CARD OF 'cordwoodlaw17.MlogRefuses'. -/
def mlogRefusesUptoCard : Claim7 := { stood := { row := mlogRefusesUptoRow, standIns := [], harness := (true, "546a70ea61887abaf88c3450da1b472130cf4b9e6516a49ab39590f71c3a2886"), looks := true }, kinds := [], alts := [], laidByText := true, laidKinds := [.sentinel, .sentinel, .sentinel, .sentinel, .sentinel, .sentinel, .sentinel, .sentinel, .sentinel, .sentinel, .sentinel, .sentinel, .sentinel, .sentinel, .sentinel, .sentinel, .sentinel, .sentinel, .sentinel], laidTests := true, laidLooks := .later }
def MlogRefusesUptoCardSaid : Prop := Claim7.holds Tryz.pinned (.plain (OpenSpec.upto mlogRefusesSpec)) mlogRefusesUptoCard

/-- THE SECOND FORM's CARD OF 'cordwoodlaw17.MlogKeeps'. -/
def mlogKeepsUptoCard : Claim7 := { stood := { row := mlogKeepsUptoRow, standIns := [], harness := (true, "546a70ea61887abaf88c3450da1b472130cf4b9e6516a49ab39590f71c3a2886"), looks := true }, kinds := [], alts := [], laidByText := true, laidKinds := [.sentinel, .sentinel, .sentinel, .sentinel, .sentinel, .sentinel, .sentinel, .sentinel, .sentinel, .sentinel, .sentinel, .sentinel, .sentinel, .sentinel, .sentinel, .sentinel, .sentinel, .sentinel, .sentinel], laidTests := true, laidLooks := .later }
def MlogKeepsUptoCardSaid : Prop := Claim7.holds Tryz.pinned (.plain (OpenSpec.upto mlogKeepsSpec)) mlogKeepsUptoCard
end Rows
end Go.Proofs.YtdkgdjnbpjjfmaaGreatDoor
