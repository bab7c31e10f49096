/-
  DERIVED. GIVEN WITH THE SEED: THE CARDS: each row of YthejaanobeonnaaGreatDoorRows.lean that lists a variable, with what it lists TIED to the program's text (the seventh form; the later family's looks); each row that meets fmt, with fmt's text TOLD by the authors' own Lean function (tested against real Go, not proved from fmt's source: count such statements apart). THE CARD IS WHAT COUNTS. Prove the row's statement (the work); the ties are given (YthejaanobeonnaaGreatDoorTie.lean); close each card by the builder's one call (the guide's Derived/Test/ToyasCard.lean, 'card_holds'). Laid BY PROGRAM, IN A SANDBOX (cutbox-door.mjs). By AI agents, Wed Nov 11 2026. No macro, syntax, notation, axiom, sorry.
-/
import Derived.Test.YthejaanobeonnaaGreatDoorRows
import GoSem.ClaimSeven
namespace Go.Proofs.YthejaanobeonnaaGreatDoor
namespace Rows

/-- THE TIED CARD OF 'cordwoodlaw21.UpTwo'. -/
def upTwoCard : Claim7 := { stood := { row := upTwoRow, standIns := [], harness := (true, "e24eb6fa8e2400d6676179ed11828bbfece46403d760b9ae35b13185838c2e9e"), looks := true }, kinds := [], alts := [], laidByText := true, laidKinds := [.sentinel, .sentinel, .sentinel, .sentinel, .sentinel, .sentinel, .sentinel, .sentinel, .sentinel, .sentinel, .sentinel, .sentinel, .sentinel], laidTests := true, laidLooks := .later }
def UpTwoCardSaid : Prop := Claim7.holds Tryz.pinned (.plain (OpenSpec.ofChange upTwoSpec)) upTwoCard

/-- THE TIED CARD OF 'cordwoodlaw21.UpRefuses'. -/
def upRefusesCard : Claim7 := { stood := { row := upRefusesRow, standIns := [], harness := (true, "e24eb6fa8e2400d6676179ed11828bbfece46403d760b9ae35b13185838c2e9e"), looks := true }, kinds := [], alts := [], laidByText := true, laidKinds := [.sentinel, .sentinel, .sentinel, .sentinel, .sentinel, .sentinel, .sentinel, .sentinel, .sentinel, .sentinel, .sentinel, .sentinel, .sentinel, .sentinel, .sentinel, .sentinel, .sentinel, .sentinel, .sentinel], laidTests := true, laidLooks := .later }
def UpRefusesCardSaid : Prop := Claim7.holds Tryz.pinned (.plain (OpenSpec.ofChange upRefusesSpec)) upRefusesCard

/-- THE TIED CARD OF 'cordwoodlaw21.UpCounts'. -/
def upCountsCard : Claim7 := { stood := { row := upCountsRow, standIns := [], harness := (true, "e24eb6fa8e2400d6676179ed11828bbfece46403d760b9ae35b13185838c2e9e"), looks := true }, kinds := [], alts := [], laidByText := true, laidKinds := [.sentinel, .sentinel, .sentinel, .sentinel, .sentinel, .sentinel, .sentinel, .sentinel, .sentinel, .sentinel, .sentinel, .sentinel, .sentinel], laidTests := true, laidLooks := .later }
def UpCountsCardSaid : Prop := Claim7.holds Tryz.pinned (.plain (OpenSpec.ofChange upCountsSpec)) upCountsCard

/-- THE TIED CARD OF 'cordwoodlaw21.UpEnds'. -/
def upEndsCard : Claim7 := { stood := { row := upEndsRow, standIns := [], harness := (true, "e24eb6fa8e2400d6676179ed11828bbfece46403d760b9ae35b13185838c2e9e"), looks := true }, kinds := [], alts := [], laidByText := true, laidKinds := [.sentinel, .sentinel, .sentinel, .sentinel, .sentinel, .sentinel, .sentinel, .sentinel, .sentinel, .sentinel, .sentinel, .sentinel, .sentinel, .sentinel, .sentinel, .sentinel, .sentinel, .sentinel, .sentinel], laidTests := true, laidLooks := .later }
def UpEndsCardSaid : Prop := Claim7.holds Tryz.pinned (.plain (OpenSpec.ofChange upEndsSpec)) upEndsCard

/-- THE TIED CARD OF 'cordwoodlaw21.UpGoesOn'. -/
def upGoesOnCard : Claim7 := { stood := { row := upGoesOnRow, standIns := [], harness := (true, "e24eb6fa8e2400d6676179ed11828bbfece46403d760b9ae35b13185838c2e9e"), looks := true }, kinds := [], alts := [], laidByText := true, laidKinds := [.sentinel, .sentinel, .sentinel, .sentinel, .sentinel, .sentinel, .sentinel, .sentinel, .sentinel, .sentinel, .sentinel, .sentinel, .sentinel, .sentinel, .sentinel, .sentinel, .sentinel, .sentinel, .sentinel], laidTests := true, laidLooks := .later }
def UpGoesOnCardSaid : Prop := Claim7.holds Tryz.pinned (.plain (OpenSpec.ofChange upGoesOnSpec)) upGoesOnCard

/-- THE SECOND FORM's CARD OF 'cordwoodlaw21.UpTwo'. -/
def upTwoUptoCard : Claim7 := { stood := { row := upTwoUptoRow, standIns := [], harness := (true, "e24eb6fa8e2400d6676179ed11828bbfece46403d760b9ae35b13185838c2e9e"), looks := true }, kinds := [], alts := [], laidByText := true, laidKinds := [.sentinel, .sentinel, .sentinel, .sentinel, .sentinel, .sentinel, .sentinel, .sentinel, .sentinel, .sentinel, .sentinel, .sentinel, .sentinel], laidTests := true, laidLooks := .later }
def UpTwoUptoCardSaid : Prop := Claim7.holds Tryz.pinned (.plain (OpenSpec.upto upTwoSpec)) upTwoUptoCard

/-- THE SECOND FORM's CARD OF 'cordwoodlaw21.UpRefuses'. -/
def upRefusesUptoCard : Claim7 := { stood := { row := upRefusesUptoRow, standIns := [], harness := (true, "e24eb6fa8e2400d6676179ed11828bbfece46403d760b9ae35b13185838c2e9e"), looks := true }, kinds := [], alts := [], laidByText := true, laidKinds := [.sentinel, .sentinel, .sentinel, .sentinel, .sentinel, .sentinel, .sentinel, .sentinel, .sentinel, .sentinel, .sentinel, .sentinel, .sentinel, .sentinel, .sentinel, .sentinel, .sentinel, .sentinel, .sentinel], laidTests := true, laidLooks := .later }
def UpRefusesUptoCardSaid : Prop := Claim7.holds Tryz.pinned (.plain (OpenSpec.upto upRefusesSpec)) upRefusesUptoCard

/-- THE SECOND FORM's CARD OF 'cordwoodlaw21.UpCounts'. -/
def upCountsUptoCard : Claim7 := { stood := { row := upCountsUptoRow, standIns := [], harness := (true, "e24eb6fa8e2400d6676179ed11828bbfece46403d760b9ae35b13185838c2e9e"), looks := true }, kinds := [], alts := [], laidByText := true, laidKinds := [.sentinel, .sentinel, .sentinel, .sentinel, .sentinel, .sentinel, .sentinel, .sentinel, .sentinel, .sentinel, .sentinel, .sentinel, .sentinel], laidTests := true, laidLooks := .later }
def UpCountsUptoCardSaid : Prop := Claim7.holds Tryz.pinned (.plain (OpenSpec.upto upCountsSpec)) upCountsUptoCard

/-- THE SECOND FORM's CARD OF 'cordwoodlaw21.UpEnds'. -/
def upEndsUptoCard : Claim7 := { stood := { row := upEndsUptoRow, standIns := [], harness := (true, "e24eb6fa8e2400d6676179ed11828bbfece46403d760b9ae35b13185838c2e9e"), looks := true }, kinds := [], alts := [], laidByText := true, laidKinds := [.sentinel, .sentinel, .sentinel, .sentinel, .sentinel, .sentinel, .sentinel, .sentinel, .sentinel, .sentinel, .sentinel, .sentinel, .sentinel, .sentinel, .sentinel, .sentinel, .sentinel, .sentinel, .sentinel], laidTests := true, laidLooks := .later }
def UpEndsUptoCardSaid : Prop := Claim7.holds Tryz.pinned (.plain (OpenSpec.upto upEndsSpec)) upEndsUptoCard

/-- THE SECOND FORM's CARD OF 'cordwoodlaw21.UpGoesOn'. -/
def upGoesOnUptoCard : Claim7 := { stood := { row := upGoesOnUptoRow, standIns := [], harness := (true, "e24eb6fa8e2400d6676179ed11828bbfece46403d760b9ae35b13185838c2e9e"), looks := true }, kinds := [], alts := [], laidByText := true, laidKinds := [.sentinel, .sentinel, .sentinel, .sentinel, .sentinel, .sentinel, .sentinel, .sentinel, .sentinel, .sentinel, .sentinel, .sentinel, .sentinel, .sentinel, .sentinel, .sentinel, .sentinel, .sentinel, .sentinel], laidTests := true, laidLooks := .later }
def UpGoesOnUptoCardSaid : Prop := Claim7.holds Tryz.pinned (.plain (OpenSpec.upto upGoesOnSpec)) upGoesOnUptoCard
end Rows
end Go.Proofs.YthejaanobeonnaaGreatDoor
