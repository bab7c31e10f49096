/-
  DERIVED. GIVEN WITH THE SEED: THE CARDS: each row of YtkogkokmcmallaaGreatDoorRows.lean that lists a variable, with what it lists TIED to the program's text (the seventh form; the later family's looks); each row that meets fmt, with fmt's text TOLD by the authors' own Lean function (tested against real Go, not proved from fmt's source: count such statements apart). THE CARD IS WHAT COUNTS. Prove the row's statement (the work); the ties are given (YtkogkokmcmallaaGreatDoorTie.lean); close each card by the builder's one call (the guide's Derived/Test/ToyasCard.lean, 'card_holds'). Laid BY PROGRAM, IN A SANDBOX (cutbox-door.mjs). By AI agents, Wed Nov 11 2026. No macro, syntax, notation, axiom, sorry.
-/
import Derived.Test.YtkogkokmcmallaaGreatDoorRows
import GoSem.ClaimSeven
namespace Go.Proofs.YtkogkokmcmallaaGreatDoor
namespace Rows

/-- THE TIED CARD OF 'cordwoodlaw23.SweepKeeps'. -/
def sweepKeepsCard : Claim7 := { stood := { row := sweepKeepsRow, standIns := [], harness := (true, "7e1f7d576c2a53a6d8137e7f0532448f27487f1b1c733fcc942c4ef6e5f7830e"), looks := true }, kinds := [], alts := [], laidByText := true, laidKinds := [.sentinel, .sentinel, .sentinel, .sentinel, .sentinel, .sentinel, .sentinel, .sentinel], laidTests := true, laidLooks := .later }
def SweepKeepsCardSaid : Prop := Claim7.holds Tryz.pinned (.plain (OpenSpec.ofChange sweepKeepsSpec)) sweepKeepsCard

/-- THE TIED CARD OF 'cordwoodlaw23.SweepEnds'. -/
def sweepEndsCard : Claim7 := { stood := { row := sweepEndsRow, standIns := [], harness := (true, "7e1f7d576c2a53a6d8137e7f0532448f27487f1b1c733fcc942c4ef6e5f7830e"), looks := true }, kinds := [], alts := [], laidByText := true, laidKinds := [.sentinel, .sentinel, .sentinel, .sentinel, .sentinel, .sentinel, .sentinel, .sentinel, .sentinel, .sentinel, .sentinel, .sentinel, .sentinel, .sentinel, .sentinel, .sentinel, .sentinel, .sentinel, .sentinel], laidTests := true, laidLooks := .later }
def SweepEndsCardSaid : Prop := Claim7.holds Tryz.pinned (.plain (OpenSpec.ofChange sweepEndsSpec)) sweepEndsCard

/-- THE TIED CARD OF 'cordwoodlaw16.ViewSpoilt'. -/
def viewSpoiltCard : Claim7 := { stood := { row := viewSpoiltRow, standIns := [], harness := (true, "7e1f7d576c2a53a6d8137e7f0532448f27487f1b1c733fcc942c4ef6e5f7830e"), looks := true }, kinds := [], alts := [], laidByText := true, laidKinds := [.sentinel, .sentinel, .sentinel, .sentinel, .sentinel, .sentinel, .sentinel, .sentinel, .sentinel, .sentinel, .sentinel, .sentinel, .sentinel, .sentinel, .sentinel, .sentinel, .sentinel, .sentinel, .sentinel], laidTests := true, laidLooks := .later }
def ViewSpoiltCardSaid : Prop := Claim7.holds Tryz.pinned (.plain (OpenSpec.ofChange viewSpoiltSpec)) viewSpoiltCard

/-- THE TIED CARD OF 'cordwoodlaw16.ViewPlays'. -/
def viewPlaysCard : Claim7 := { stood := { row := viewPlaysRow, standIns := [], harness := (true, "7e1f7d576c2a53a6d8137e7f0532448f27487f1b1c733fcc942c4ef6e5f7830e"), looks := true }, kinds := [], alts := [], laidByText := true, laidKinds := [.sentinel, .sentinel, .sentinel, .sentinel, .sentinel, .sentinel, .sentinel, .sentinel, .sentinel, .sentinel, .sentinel, .sentinel, .sentinel, .sentinel, .sentinel, .sentinel, .sentinel, .sentinel, .sentinel], laidTests := true, laidLooks := .later }
def ViewPlaysCardSaid : Prop := Claim7.holds Tryz.pinned (.plain (OpenSpec.ofChange viewPlaysSpec)) viewPlaysCard

/-- THE TIED CARD OF 'cordwoodlaw11.StorePlays'. -/
def storePlaysCard : Claim7 := { stood := { row := storePlaysRow, standIns := [], harness := (true, "7e1f7d576c2a53a6d8137e7f0532448f27487f1b1c733fcc942c4ef6e5f7830e"), looks := true }, kinds := [], alts := [], laidByText := true, laidKinds := [.sentinel, .sentinel, .sentinel, .sentinel, .sentinel, .sentinel, .sentinel, .sentinel, .sentinel, .sentinel, .sentinel, .sentinel, .sentinel, .sentinel, .sentinel, .sentinel, .sentinel, .sentinel, .sentinel], laidTests := true, laidLooks := .later }
def StorePlaysCardSaid : Prop := Claim7.holds Tryz.pinned (.plain (OpenSpec.ofChange storePlaysSpec)) storePlaysCard

/-- THE TIED CARD OF 'cordwoodlaw12.CallPlays'. -/
def callPlaysCard : Claim7 := { stood := { row := callPlaysRow, standIns := [], harness := (true, "7e1f7d576c2a53a6d8137e7f0532448f27487f1b1c733fcc942c4ef6e5f7830e"), looks := true }, kinds := [], alts := [], laidByText := true, laidKinds := [.sentinel, .sentinel, .sentinel, .sentinel, .sentinel, .sentinel, .sentinel, .sentinel, .sentinel, .sentinel, .sentinel, .sentinel, .sentinel, .sentinel, .sentinel, .sentinel, .sentinel, .sentinel, .sentinel], laidTests := true, laidLooks := .later }
def CallPlaysCardSaid : Prop := Claim7.holds Tryz.pinned (.plain (OpenSpec.ofChange callPlaysSpec)) callPlaysCard

/-- THE SECOND FORM's CARD OF 'cordwoodlaw23.SweepKeeps'. -/
def sweepKeepsUptoCard : Claim7 := { stood := { row := sweepKeepsUptoRow, standIns := [], harness := (true, "7e1f7d576c2a53a6d8137e7f0532448f27487f1b1c733fcc942c4ef6e5f7830e"), looks := true }, kinds := [], alts := [], laidByText := true, laidKinds := [.sentinel, .sentinel, .sentinel, .sentinel, .sentinel, .sentinel, .sentinel, .sentinel], laidTests := true, laidLooks := .later }
def SweepKeepsUptoCardSaid : Prop := Claim7.holds Tryz.pinned (.plain (OpenSpec.upto sweepKeepsSpec)) sweepKeepsUptoCard

/-- THE SECOND FORM's CARD OF 'cordwoodlaw23.SweepEnds'. -/
def sweepEndsUptoCard : Claim7 := { stood := { row := sweepEndsUptoRow, standIns := [], harness := (true, "7e1f7d576c2a53a6d8137e7f0532448f27487f1b1c733fcc942c4ef6e5f7830e"), looks := true }, kinds := [], alts := [], laidByText := true, laidKinds := [.sentinel, .sentinel, .sentinel, .sentinel, .sentinel, .sentinel, .sentinel, .sentinel, .sentinel, .sentinel, .sentinel, .sentinel, .sentinel, .sentinel, .sentinel, .sentinel, .sentinel, .sentinel, .sentinel], laidTests := true, laidLooks := .later }
def SweepEndsUptoCardSaid : Prop := Claim7.holds Tryz.pinned (.plain (OpenSpec.upto sweepEndsSpec)) sweepEndsUptoCard

/-- THE SECOND FORM's CARD OF 'cordwoodlaw16.ViewSpoilt'. -/
def viewSpoiltUptoCard : Claim7 := { stood := { row := viewSpoiltUptoRow, standIns := [], harness := (true, "7e1f7d576c2a53a6d8137e7f0532448f27487f1b1c733fcc942c4ef6e5f7830e"), looks := true }, kinds := [], alts := [], laidByText := true, laidKinds := [.sentinel, .sentinel, .sentinel, .sentinel, .sentinel, .sentinel, .sentinel, .sentinel, .sentinel, .sentinel, .sentinel, .sentinel, .sentinel, .sentinel, .sentinel, .sentinel, .sentinel, .sentinel, .sentinel], laidTests := true, laidLooks := .later }
def ViewSpoiltUptoCardSaid : Prop := Claim7.holds Tryz.pinned (.plain (OpenSpec.upto viewSpoiltSpec)) viewSpoiltUptoCard

/-- THE SECOND FORM's CARD OF 'cordwoodlaw16.ViewPlays'. -/
def viewPlaysUptoCard : Claim7 := { stood := { row := viewPlaysUptoRow, standIns := [], harness := (true, "7e1f7d576c2a53a6d8137e7f0532448f27487f1b1c733fcc942c4ef6e5f7830e"), looks := true }, kinds := [], alts := [], laidByText := true, laidKinds := [.sentinel, .sentinel, .sentinel, .sentinel, .sentinel, .sentinel, .sentinel, .sentinel, .sentinel, .sentinel, .sentinel, .sentinel, .sentinel, .sentinel, .sentinel, .sentinel, .sentinel, .sentinel, .sentinel], laidTests := true, laidLooks := .later }
def ViewPlaysUptoCardSaid : Prop := Claim7.holds Tryz.pinned (.plain (OpenSpec.upto viewPlaysSpec)) viewPlaysUptoCard

/-- THE SECOND FORM's CARD OF 'cordwoodlaw11.StorePlays'. -/
def storePlaysUptoCard : Claim7 := { stood := { row := storePlaysUptoRow, standIns := [], harness := (true, "7e1f7d576c2a53a6d8137e7f0532448f27487f1b1c733fcc942c4ef6e5f7830e"), looks := true }, kinds := [], alts := [], laidByText := true, laidKinds := [.sentinel, .sentinel, .sentinel, .sentinel, .sentinel, .sentinel, .sentinel, .sentinel, .sentinel, .sentinel, .sentinel, .sentinel, .sentinel, .sentinel, .sentinel, .sentinel, .sentinel, .sentinel, .sentinel], laidTests := true, laidLooks := .later }
def StorePlaysUptoCardSaid : Prop := Claim7.holds Tryz.pinned (.plain (OpenSpec.upto storePlaysSpec)) storePlaysUptoCard

/-- THE SECOND FORM's CARD OF 'cordwoodlaw12.CallPlays'. -/
def callPlaysUptoCard : Claim7 := { stood := { row := callPlaysUptoRow, standIns := [], harness := (true, "7e1f7d576c2a53a6d8137e7f0532448f27487f1b1c733fcc942c4ef6e5f7830e"), looks := true }, kinds := [], alts := [], laidByText := true, laidKinds := [.sentinel, .sentinel, .sentinel, .sentinel, .sentinel, .sentinel, .sentinel, .sentinel, .sentinel, .sentinel, .sentinel, .sentinel, .sentinel, .sentinel, .sentinel, .sentinel, .sentinel, .sentinel, .sentinel], laidTests := true, laidLooks := .later }
def CallPlaysUptoCardSaid : Prop := Claim7.holds Tryz.pinned (.plain (OpenSpec.upto callPlaysSpec)) callPlaysUptoCard
end Rows
end Go.Proofs.YtkogkokmcmallaaGreatDoor
