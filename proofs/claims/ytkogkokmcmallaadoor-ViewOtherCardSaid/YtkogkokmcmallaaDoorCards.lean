/-
  DERIVED. GIVEN WITH THE SEED: THE CARDS: each row of YtkogkokmcmallaaDoorRows.lean that lists a variable, with what it lists TIED to the program's text (the seventh form; the later family's looks); each row that meets fmt, with fmt's text TOLD by the authors' own Lean function (tested against real Go, not proved from fmt's source: count such statements apart). THE CARD IS WHAT COUNTS. Prove the row's statement (the work); the ties are given (YtkogkokmcmallaaDoorTie.lean); close each card by the builder's one call (the guide's Derived/Test/ToyasCard.lean, 'card_holds'). Laid BY PROGRAM, IN A SANDBOX (cutbox-door.mjs). By AI agents, Wed Nov 11 2026. No macro, syntax, notation, axiom, sorry.
-/
import Derived.Test.YtkogkokmcmallaaDoorRows
import GoSem.ClaimSeven
namespace Go.Proofs.YtkogkokmcmallaaDoor
namespace Rows

/-- THE TIED CARD OF 'cordwoodlaw23.SweepNames'. -/
def sweepNamesCard : Claim7 := { stood := { row := sweepNamesRow, standIns := [], harness := (true, "0fcb2fd90cd10c48dcb903701277a6f4dd740ae4f331796b75bf842385a529db"), looks := true }, kinds := [], alts := [], laidByText := true, laidKinds := [.sentinel, .sentinel, .sentinel, .sentinel, .sentinel, .sentinel], laidTests := true, laidLooks := .later }
def SweepNamesCardSaid : Prop := Claim7.holds Tryd.pinned (.plain (OpenSpec.ofChange sweepNamesSpec)) sweepNamesCard

/-- THE TIED CARD OF 'cordwoodlaw23.SweepSays'. -/
def sweepSaysCard : Claim7 := { stood := { row := sweepSaysRow, standIns := [], harness := (true, "0fcb2fd90cd10c48dcb903701277a6f4dd740ae4f331796b75bf842385a529db"), looks := true }, kinds := [], alts := [], laidByText := true, laidKinds := [.sentinel, .sentinel, .sentinel, .sentinel, .sentinel, .sentinel], laidTests := true, laidLooks := .later }
def SweepSaysCardSaid : Prop := Claim7.holds Tryd.pinned (.plain (OpenSpec.ofChange sweepSaysSpec)) sweepSaysCard

/-- THE TIED CARD OF 'cordwoodlaw16.ViewNext'. -/
def viewNextCard : Claim7 := { stood := { row := viewNextRow, standIns := [], harness := (true, "0fcb2fd90cd10c48dcb903701277a6f4dd740ae4f331796b75bf842385a529db"), looks := true }, kinds := [], alts := [], laidByText := true, laidKinds := [.sentinel, .sentinel, .sentinel, .sentinel, .sentinel, .sentinel, .sentinel, .sentinel, .sentinel, .sentinel, .sentinel, .sentinel, .sentinel, .sentinel, .sentinel, .sentinel, .sentinel, .sentinel, .sentinel], laidTests := true, laidLooks := .later }
def ViewNextCardSaid : Prop := Claim7.holds Tryd.pinned (.plain (OpenSpec.ofChange viewNextSpec)) viewNextCard

/-- THE TIED CARD OF 'cordwoodlaw16.ViewLives'. -/
def viewLivesCard : Claim7 := { stood := { row := viewLivesRow, standIns := [], harness := (true, "0fcb2fd90cd10c48dcb903701277a6f4dd740ae4f331796b75bf842385a529db"), looks := true }, kinds := [], alts := [], laidByText := true, laidKinds := [.sentinel, .sentinel, .sentinel, .sentinel, .sentinel, .sentinel, .sentinel, .sentinel, .sentinel, .sentinel, .sentinel, .sentinel, .sentinel, .sentinel, .sentinel, .sentinel, .sentinel, .sentinel, .sentinel], laidTests := true, laidLooks := .later }
def ViewLivesCardSaid : Prop := Claim7.holds Tryd.pinned (.plain (OpenSpec.ofChange viewLivesSpec)) viewLivesCard

/-- THE TIED CARD OF 'cordwoodlaw16.ViewOther'. -/
def viewOtherCard : Claim7 := { stood := { row := viewOtherRow, standIns := [], harness := (true, "0fcb2fd90cd10c48dcb903701277a6f4dd740ae4f331796b75bf842385a529db"), looks := true }, kinds := [], alts := [], laidByText := true, laidKinds := [.sentinel, .sentinel, .sentinel, .sentinel, .sentinel, .sentinel, .sentinel, .sentinel, .sentinel, .sentinel, .sentinel, .sentinel, .sentinel, .sentinel, .sentinel, .sentinel, .sentinel, .sentinel, .sentinel], laidTests := true, laidLooks := .later }
def ViewOtherCardSaid : Prop := Claim7.holds Tryd.pinned (.plain (OpenSpec.ofChange viewOtherSpec)) viewOtherCard

/-- THE SECOND FORM's CARD OF 'cordwoodlaw23.SweepNames'. -/
def sweepNamesUptoCard : Claim7 := { stood := { row := sweepNamesUptoRow, standIns := [], harness := (true, "0fcb2fd90cd10c48dcb903701277a6f4dd740ae4f331796b75bf842385a529db"), looks := true }, kinds := [], alts := [], laidByText := true, laidKinds := [.sentinel, .sentinel, .sentinel, .sentinel, .sentinel, .sentinel], laidTests := true, laidLooks := .later }
def SweepNamesUptoCardSaid : Prop := Claim7.holds Tryd.pinned (.plain (OpenSpec.upto sweepNamesSpec)) sweepNamesUptoCard

/-- THE SECOND FORM's CARD OF 'cordwoodlaw23.SweepSays'. -/
def sweepSaysUptoCard : Claim7 := { stood := { row := sweepSaysUptoRow, standIns := [], harness := (true, "0fcb2fd90cd10c48dcb903701277a6f4dd740ae4f331796b75bf842385a529db"), looks := true }, kinds := [], alts := [], laidByText := true, laidKinds := [.sentinel, .sentinel, .sentinel, .sentinel, .sentinel, .sentinel], laidTests := true, laidLooks := .later }
def SweepSaysUptoCardSaid : Prop := Claim7.holds Tryd.pinned (.plain (OpenSpec.upto sweepSaysSpec)) sweepSaysUptoCard

/-- THE SECOND FORM's CARD OF 'cordwoodlaw16.ViewNext'. -/
def viewNextUptoCard : Claim7 := { stood := { row := viewNextUptoRow, standIns := [], harness := (true, "0fcb2fd90cd10c48dcb903701277a6f4dd740ae4f331796b75bf842385a529db"), looks := true }, kinds := [], alts := [], laidByText := true, laidKinds := [.sentinel, .sentinel, .sentinel, .sentinel, .sentinel, .sentinel, .sentinel, .sentinel, .sentinel, .sentinel, .sentinel, .sentinel, .sentinel, .sentinel, .sentinel, .sentinel, .sentinel, .sentinel, .sentinel], laidTests := true, laidLooks := .later }
def ViewNextUptoCardSaid : Prop := Claim7.holds Tryd.pinned (.plain (OpenSpec.upto viewNextSpec)) viewNextUptoCard

/-- THE SECOND FORM's CARD OF 'cordwoodlaw16.ViewLives'. -/
def viewLivesUptoCard : Claim7 := { stood := { row := viewLivesUptoRow, standIns := [], harness := (true, "0fcb2fd90cd10c48dcb903701277a6f4dd740ae4f331796b75bf842385a529db"), looks := true }, kinds := [], alts := [], laidByText := true, laidKinds := [.sentinel, .sentinel, .sentinel, .sentinel, .sentinel, .sentinel, .sentinel, .sentinel, .sentinel, .sentinel, .sentinel, .sentinel, .sentinel, .sentinel, .sentinel, .sentinel, .sentinel, .sentinel, .sentinel], laidTests := true, laidLooks := .later }
def ViewLivesUptoCardSaid : Prop := Claim7.holds Tryd.pinned (.plain (OpenSpec.upto viewLivesSpec)) viewLivesUptoCard

/-- THE SECOND FORM's CARD OF 'cordwoodlaw16.ViewOther'. -/
def viewOtherUptoCard : Claim7 := { stood := { row := viewOtherUptoRow, standIns := [], harness := (true, "0fcb2fd90cd10c48dcb903701277a6f4dd740ae4f331796b75bf842385a529db"), looks := true }, kinds := [], alts := [], laidByText := true, laidKinds := [.sentinel, .sentinel, .sentinel, .sentinel, .sentinel, .sentinel, .sentinel, .sentinel, .sentinel, .sentinel, .sentinel, .sentinel, .sentinel, .sentinel, .sentinel, .sentinel, .sentinel, .sentinel, .sentinel], laidTests := true, laidLooks := .later }
def ViewOtherUptoCardSaid : Prop := Claim7.holds Tryd.pinned (.plain (OpenSpec.upto viewOtherSpec)) viewOtherUptoCard
end Rows
end Go.Proofs.YtkogkokmcmallaaDoor
