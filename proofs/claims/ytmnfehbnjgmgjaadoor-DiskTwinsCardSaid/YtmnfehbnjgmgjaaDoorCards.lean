/-
  DERIVED. GIVEN WITH THE SEED: THE CARDS: each row of YtmnfehbnjgmgjaaDoorRows.lean that lists a variable, with what it lists TIED to the program's text (the seventh form; the later family's looks); each row that meets fmt, with fmt's text TOLD by the authors' own Lean function (tested against real Go, not proved from fmt's source: count such statements apart). THE CARD IS WHAT COUNTS. Prove the row's statement (the work); the ties are given (YtmnfehbnjgmgjaaDoorTie.lean); close each card by the builder's one call (the guide's Derived/Test/ToyasCard.lean, 'card_holds'). Laid BY PROGRAM, IN A SANDBOX (cutbox-door.mjs). By AI agents, Wed Nov 11 2026. No macro, syntax, notation, axiom, sorry.
-/
import Derived.Test.YtmnfehbnjgmgjaaDoorRows
import GoSem.ClaimSeven
namespace Go.Proofs.YtmnfehbnjgmgjaaDoor
namespace Rows

/-- THE TIED CARD OF 'cordwoodlaw8.PointNums'. -/
def pointNumsCard : Claim7 := { stood := { row := pointNumsRow, standIns := [], harness := (true, "036d17608c80a2014779488a53755299142effb1c608ce6538a9191886ad1a5c"), looks := true }, kinds := [], alts := [], laidByText := true, laidKinds := [.sentinel, .sentinel, .sentinel, .sentinel, .sentinel, .sentinel, .sentinel, .sentinel, .sentinel, .sentinel, .sentinel, .sentinel, .sentinel, .sentinel, .sentinel, .sentinel, .sentinel, .sentinel, .sentinel], laidTests := true, laidLooks := .later }
def PointNumsCardSaid : Prop := Claim7.holds Tryd.pinned (.plain (OpenSpec.ofChange pointNumsSpec)) pointNumsCard

/-- THE TIED CARD OF 'cordwoodlaw20.JourBytes'. -/
def jourBytesCard : Claim7 := { stood := { row := jourBytesRow, standIns := [], harness := (true, "036d17608c80a2014779488a53755299142effb1c608ce6538a9191886ad1a5c"), looks := true }, kinds := [], alts := [], laidByText := true, laidKinds := [.sentinel, .sentinel, .sentinel, .sentinel, .sentinel, .sentinel, .sentinel, .sentinel, .sentinel, .sentinel], laidTests := true, laidLooks := .later }
def JourBytesCardSaid : Prop := Claim7.holds Tryd.pinned (.plain (OpenSpec.ofChange jourBytesSpec)) jourBytesCard

/-- THE TIED CARD OF 'cordwoodlaw20.JourBounds'. -/
def jourBoundsCard : Claim7 := { stood := { row := jourBoundsRow, standIns := [], harness := (true, "036d17608c80a2014779488a53755299142effb1c608ce6538a9191886ad1a5c"), looks := true }, kinds := [], alts := [], laidByText := true, laidKinds := [.sentinel, .sentinel, .sentinel, .sentinel, .sentinel, .sentinel, .sentinel, .sentinel, .sentinel, .sentinel, .sentinel, .sentinel, .sentinel, .sentinel, .sentinel, .sentinel, .sentinel, .sentinel, .sentinel], laidTests := true, laidLooks := .later }
def JourBoundsCardSaid : Prop := Claim7.holds Tryd.pinned (.plain (OpenSpec.ofChange jourBoundsSpec)) jourBoundsCard

/-- THE TIED CARD OF 'cordwoodlaw20.JourAnew'. -/
def jourAnewCard : Claim7 := { stood := { row := jourAnewRow, standIns := [], harness := (true, "036d17608c80a2014779488a53755299142effb1c608ce6538a9191886ad1a5c"), looks := true }, kinds := [], alts := [], laidByText := true, laidKinds := [.sentinel, .sentinel, .sentinel, .sentinel, .sentinel, .sentinel, .sentinel, .sentinel, .sentinel, .sentinel], laidTests := true, laidLooks := .later }
def JourAnewCardSaid : Prop := Claim7.holds Tryd.pinned (.plain (OpenSpec.ofChange jourAnewSpec)) jourAnewCard

/-- THE TIED CARD OF 'cordwoodlaw8.PointMany'. -/
def pointManyCard : Claim7 := { stood := { row := pointManyRow, standIns := [], harness := (true, "036d17608c80a2014779488a53755299142effb1c608ce6538a9191886ad1a5c"), looks := true }, kinds := [], alts := [], laidByText := true, laidKinds := [.sentinel, .sentinel, .sentinel, .sentinel, .sentinel, .sentinel, .sentinel, .sentinel], laidTests := true, laidLooks := .later }
def PointManyCardSaid : Prop := Claim7.holds Tryd.pinned (.plain (OpenSpec.ofChange pointManySpec)) pointManyCard

/-- THE TIED CARD OF 'cordwoodlaw8.PointNames'. -/
def pointNamesCard : Claim7 := { stood := { row := pointNamesRow, standIns := [], harness := (true, "036d17608c80a2014779488a53755299142effb1c608ce6538a9191886ad1a5c"), looks := true }, kinds := [], alts := [], laidByText := true, laidKinds := [.sentinel, .sentinel, .sentinel, .sentinel, .sentinel, .sentinel, .sentinel, .sentinel, .sentinel, .sentinel, .sentinel, .sentinel, .sentinel, .sentinel, .sentinel, .sentinel, .sentinel, .sentinel, .sentinel], laidTests := true, laidLooks := .later }
def PointNamesCardSaid : Prop := Claim7.holds Tryd.pinned (.plain (OpenSpec.ofChange pointNamesSpec)) pointNamesCard

/-- THE TIED CARD OF 'cordwoodlaw20.JourKeeps'. -/
def jourKeepsCard : Claim7 := { stood := { row := jourKeepsRow, standIns := [], harness := (true, "036d17608c80a2014779488a53755299142effb1c608ce6538a9191886ad1a5c"), looks := true }, kinds := [], alts := [], laidByText := true, laidKinds := [.sentinel, .sentinel, .sentinel, .sentinel, .sentinel, .sentinel, .sentinel, .sentinel, .sentinel, .sentinel, .sentinel, .sentinel, .sentinel, .sentinel, .sentinel, .sentinel, .sentinel, .sentinel, .sentinel], laidTests := true, laidLooks := .later }
def JourKeepsCardSaid : Prop := Claim7.holds Tryd.pinned (.plain (OpenSpec.ofChange jourKeepsSpec)) jourKeepsCard

/-- THE TIED CARD OF 'cordwoodlaw4.DiskNames'. -/
def diskNamesCard : Claim7 := { stood := { row := diskNamesRow, standIns := [], harness := (true, "036d17608c80a2014779488a53755299142effb1c608ce6538a9191886ad1a5c"), looks := true }, kinds := [], alts := [], laidByText := true, laidKinds := [.sentinel, .sentinel, .sentinel, .sentinel, .sentinel, .sentinel], laidTests := true, laidLooks := .later }
def DiskNamesCardSaid : Prop := Claim7.holds Tryd.pinned (.plain (OpenSpec.ofChange diskNamesSpec)) diskNamesCard

/-- THE TIED CARD OF 'cordwoodlaw4.DiskMoves'. -/
def diskMovesCard : Claim7 := { stood := { row := diskMovesRow, standIns := [], harness := (true, "036d17608c80a2014779488a53755299142effb1c608ce6538a9191886ad1a5c"), looks := true }, kinds := [], alts := [], laidByText := true, laidKinds := [.sentinel, .sentinel, .sentinel, .sentinel, .sentinel, .sentinel], laidTests := true, laidLooks := .later }
def DiskMovesCardSaid : Prop := Claim7.holds Tryd.pinned (.plain (OpenSpec.ofChange diskMovesSpec)) diskMovesCard

/-- THE TIED CARD OF 'cordwoodlaw4.DiskTwins'. -/
def diskTwinsCard : Claim7 := { stood := { row := diskTwinsRow, standIns := [], harness := (true, "036d17608c80a2014779488a53755299142effb1c608ce6538a9191886ad1a5c"), looks := true }, kinds := [], alts := [], laidByText := true, laidKinds := [.sentinel, .sentinel, .sentinel, .sentinel, .sentinel, .sentinel], laidTests := true, laidLooks := .later }
def DiskTwinsCardSaid : Prop := Claim7.holds Tryd.pinned (.plain (OpenSpec.ofChange diskTwinsSpec)) diskTwinsCard

/-- THE SECOND FORM's CARD OF 'cordwoodlaw8.PointNums'. -/
def pointNumsUptoCard : Claim7 := { stood := { row := pointNumsUptoRow, standIns := [], harness := (true, "036d17608c80a2014779488a53755299142effb1c608ce6538a9191886ad1a5c"), looks := true }, kinds := [], alts := [], laidByText := true, laidKinds := [.sentinel, .sentinel, .sentinel, .sentinel, .sentinel, .sentinel, .sentinel, .sentinel, .sentinel, .sentinel, .sentinel, .sentinel, .sentinel, .sentinel, .sentinel, .sentinel, .sentinel, .sentinel, .sentinel], laidTests := true, laidLooks := .later }
def PointNumsUptoCardSaid : Prop := Claim7.holds Tryd.pinned (.plain (OpenSpec.upto pointNumsSpec)) pointNumsUptoCard

/-- THE SECOND FORM's CARD OF 'cordwoodlaw20.JourBytes'. -/
def jourBytesUptoCard : Claim7 := { stood := { row := jourBytesUptoRow, standIns := [], harness := (true, "036d17608c80a2014779488a53755299142effb1c608ce6538a9191886ad1a5c"), looks := true }, kinds := [], alts := [], laidByText := true, laidKinds := [.sentinel, .sentinel, .sentinel, .sentinel, .sentinel, .sentinel, .sentinel, .sentinel, .sentinel, .sentinel], laidTests := true, laidLooks := .later }
def JourBytesUptoCardSaid : Prop := Claim7.holds Tryd.pinned (.plain (OpenSpec.upto jourBytesSpec)) jourBytesUptoCard

/-- THE SECOND FORM's CARD OF 'cordwoodlaw20.JourBounds'. -/
def jourBoundsUptoCard : Claim7 := { stood := { row := jourBoundsUptoRow, standIns := [], harness := (true, "036d17608c80a2014779488a53755299142effb1c608ce6538a9191886ad1a5c"), looks := true }, kinds := [], alts := [], laidByText := true, laidKinds := [.sentinel, .sentinel, .sentinel, .sentinel, .sentinel, .sentinel, .sentinel, .sentinel, .sentinel, .sentinel, .sentinel, .sentinel, .sentinel, .sentinel, .sentinel, .sentinel, .sentinel, .sentinel, .sentinel], laidTests := true, laidLooks := .later }
def JourBoundsUptoCardSaid : Prop := Claim7.holds Tryd.pinned (.plain (OpenSpec.upto jourBoundsSpec)) jourBoundsUptoCard

/-- THE SECOND FORM's CARD OF 'cordwoodlaw20.JourAnew'. -/
def jourAnewUptoCard : Claim7 := { stood := { row := jourAnewUptoRow, standIns := [], harness := (true, "036d17608c80a2014779488a53755299142effb1c608ce6538a9191886ad1a5c"), looks := true }, kinds := [], alts := [], laidByText := true, laidKinds := [.sentinel, .sentinel, .sentinel, .sentinel, .sentinel, .sentinel, .sentinel, .sentinel, .sentinel, .sentinel], laidTests := true, laidLooks := .later }
def JourAnewUptoCardSaid : Prop := Claim7.holds Tryd.pinned (.plain (OpenSpec.upto jourAnewSpec)) jourAnewUptoCard

/-- THE SECOND FORM's CARD OF 'cordwoodlaw8.PointMany'. -/
def pointManyUptoCard : Claim7 := { stood := { row := pointManyUptoRow, standIns := [], harness := (true, "036d17608c80a2014779488a53755299142effb1c608ce6538a9191886ad1a5c"), looks := true }, kinds := [], alts := [], laidByText := true, laidKinds := [.sentinel, .sentinel, .sentinel, .sentinel, .sentinel, .sentinel, .sentinel, .sentinel], laidTests := true, laidLooks := .later }
def PointManyUptoCardSaid : Prop := Claim7.holds Tryd.pinned (.plain (OpenSpec.upto pointManySpec)) pointManyUptoCard

/-- THE SECOND FORM's CARD OF 'cordwoodlaw8.PointNames'. -/
def pointNamesUptoCard : Claim7 := { stood := { row := pointNamesUptoRow, standIns := [], harness := (true, "036d17608c80a2014779488a53755299142effb1c608ce6538a9191886ad1a5c"), looks := true }, kinds := [], alts := [], laidByText := true, laidKinds := [.sentinel, .sentinel, .sentinel, .sentinel, .sentinel, .sentinel, .sentinel, .sentinel, .sentinel, .sentinel, .sentinel, .sentinel, .sentinel, .sentinel, .sentinel, .sentinel, .sentinel, .sentinel, .sentinel], laidTests := true, laidLooks := .later }
def PointNamesUptoCardSaid : Prop := Claim7.holds Tryd.pinned (.plain (OpenSpec.upto pointNamesSpec)) pointNamesUptoCard

/-- THE SECOND FORM's CARD OF 'cordwoodlaw20.JourKeeps'. -/
def jourKeepsUptoCard : Claim7 := { stood := { row := jourKeepsUptoRow, standIns := [], harness := (true, "036d17608c80a2014779488a53755299142effb1c608ce6538a9191886ad1a5c"), looks := true }, kinds := [], alts := [], laidByText := true, laidKinds := [.sentinel, .sentinel, .sentinel, .sentinel, .sentinel, .sentinel, .sentinel, .sentinel, .sentinel, .sentinel, .sentinel, .sentinel, .sentinel, .sentinel, .sentinel, .sentinel, .sentinel, .sentinel, .sentinel], laidTests := true, laidLooks := .later }
def JourKeepsUptoCardSaid : Prop := Claim7.holds Tryd.pinned (.plain (OpenSpec.upto jourKeepsSpec)) jourKeepsUptoCard

/-- THE SECOND FORM's CARD OF 'cordwoodlaw4.DiskNames'. -/
def diskNamesUptoCard : Claim7 := { stood := { row := diskNamesUptoRow, standIns := [], harness := (true, "036d17608c80a2014779488a53755299142effb1c608ce6538a9191886ad1a5c"), looks := true }, kinds := [], alts := [], laidByText := true, laidKinds := [.sentinel, .sentinel, .sentinel, .sentinel, .sentinel, .sentinel], laidTests := true, laidLooks := .later }
def DiskNamesUptoCardSaid : Prop := Claim7.holds Tryd.pinned (.plain (OpenSpec.upto diskNamesSpec)) diskNamesUptoCard

/-- THE SECOND FORM's CARD OF 'cordwoodlaw4.DiskMoves'. -/
def diskMovesUptoCard : Claim7 := { stood := { row := diskMovesUptoRow, standIns := [], harness := (true, "036d17608c80a2014779488a53755299142effb1c608ce6538a9191886ad1a5c"), looks := true }, kinds := [], alts := [], laidByText := true, laidKinds := [.sentinel, .sentinel, .sentinel, .sentinel, .sentinel, .sentinel], laidTests := true, laidLooks := .later }
def DiskMovesUptoCardSaid : Prop := Claim7.holds Tryd.pinned (.plain (OpenSpec.upto diskMovesSpec)) diskMovesUptoCard

/-- THE SECOND FORM's CARD OF 'cordwoodlaw4.DiskTwins'. -/
def diskTwinsUptoCard : Claim7 := { stood := { row := diskTwinsUptoRow, standIns := [], harness := (true, "036d17608c80a2014779488a53755299142effb1c608ce6538a9191886ad1a5c"), looks := true }, kinds := [], alts := [], laidByText := true, laidKinds := [.sentinel, .sentinel, .sentinel, .sentinel, .sentinel, .sentinel], laidTests := true, laidLooks := .later }
def DiskTwinsUptoCardSaid : Prop := Claim7.holds Tryd.pinned (.plain (OpenSpec.upto diskTwinsSpec)) diskTwinsUptoCard
end Rows
end Go.Proofs.YtmnfehbnjgmgjaaDoor
