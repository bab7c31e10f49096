/-
  DERIVED. GIVEN WITH THE SEED: THE CARDS: each row of YthlnkniocklegaaDoorRows.lean that lists a variable, with what it lists TIED to the program's text (the seventh form; the later family's looks); each row that meets fmt, with fmt's text TOLD by the authors' own Lean function (tested against real Go, not proved from fmt's source: count such statements apart). THE CARD IS WHAT COUNTS. Prove the row's statement (the work); the ties are given (YthlnkniocklegaaDoorTie.lean); close each card by the builder's one call (the guide's Derived/Test/ToyasCard.lean, 'card_holds'). Laid BY PROGRAM, IN A SANDBOX (cutbox-door.mjs). By AI agents, Wed Nov 11 2026. No macro, syntax, notation, axiom, sorry.
-/
import Derived.Test.YthlnkniocklegaaDoorRows
import GoSem.ClaimSeven
namespace Go.Proofs.YthlnkniocklegaaDoor
namespace Rows

/-- THE TIED CARD OF 'cordwoodlaw4.DiskRooms'. -/
def diskRoomsCard : Claim7 := { stood := { row := diskRoomsRow, standIns := [], harness := (true, "181be817e718b2bebd36cebb577ba102161c9f4ac41bae6bb1436b0332a42727"), looks := true }, kinds := [], alts := [], laidByText := true, laidKinds := [.sentinel, .sentinel, .sentinel, .sentinel, .sentinel, .sentinel, .sentinel, .sentinel, .sentinel, .sentinel, .sentinel, .sentinel, .sentinel, .sentinel, .sentinel, .sentinel, .sentinel, .sentinel, .sentinel], laidTests := true, laidLooks := .later }
def DiskRoomsCardSaid : Prop := Claim7.holds Tryd.pinned (.plain (OpenSpec.ofChange diskRoomsSpec)) diskRoomsCard

/-- THE TIED CARD OF 'cordwoodlaw8.PointFull'. -/
def pointFullCard : Claim7 := { stood := { row := pointFullRow, standIns := [], harness := (true, "181be817e718b2bebd36cebb577ba102161c9f4ac41bae6bb1436b0332a42727"), looks := true }, kinds := [], alts := [], laidByText := true, laidKinds := [.sentinel, .sentinel, .sentinel, .sentinel, .sentinel, .sentinel, .sentinel, .sentinel], laidTests := true, laidLooks := .later }
def PointFullCardSaid : Prop := Claim7.holds Tryd.pinned (.plain (OpenSpec.ofChange pointFullSpec)) pointFullCard

/-- THE TIED CARD OF 'cordwoodlaw4.DiskArms'. -/
def diskArmsCard : Claim7 := { stood := { row := diskArmsRow, standIns := [], harness := (true, "181be817e718b2bebd36cebb577ba102161c9f4ac41bae6bb1436b0332a42727"), looks := true }, kinds := [], alts := [], laidByText := true, laidKinds := [.sentinel, .sentinel, .sentinel, .sentinel, .sentinel, .sentinel, .sentinel, .sentinel, .sentinel, .sentinel, .sentinel, .sentinel, .sentinel, .sentinel, .sentinel, .sentinel, .sentinel, .sentinel, .sentinel], laidTests := true, laidLooks := .later }
def DiskArmsCardSaid : Prop := Claim7.holds Tryd.pinned (.plain (OpenSpec.ofChange diskArmsSpec)) diskArmsCard

/-- THE TIED CARD OF 'cordwoodlaw4.DiskKeeps'. -/
def diskKeepsCard : Claim7 := { stood := { row := diskKeepsRow, standIns := [], harness := (true, "181be817e718b2bebd36cebb577ba102161c9f4ac41bae6bb1436b0332a42727"), looks := true }, kinds := [], alts := [], laidByText := true, laidKinds := [.sentinel, .sentinel, .sentinel, .sentinel, .sentinel, .sentinel, .sentinel, .sentinel, .sentinel, .sentinel, .sentinel, .sentinel, .sentinel, .sentinel, .sentinel, .sentinel, .sentinel, .sentinel, .sentinel], laidTests := true, laidLooks := .later }
def DiskKeepsCardSaid : Prop := Claim7.holds Tryd.pinned (.plain (OpenSpec.ofChange diskKeepsSpec)) diskKeepsCard

/-- THE TIED CARD OF 'cordwoodlaw4.DiskCuts'. -/
def diskCutsCard : Claim7 := { stood := { row := diskCutsRow, standIns := [], harness := (true, "181be817e718b2bebd36cebb577ba102161c9f4ac41bae6bb1436b0332a42727"), looks := true }, kinds := [], alts := [], laidByText := true, laidKinds := [.sentinel, .sentinel, .sentinel, .sentinel, .sentinel, .sentinel, .sentinel, .sentinel, .sentinel, .sentinel, .sentinel, .sentinel, .sentinel, .sentinel, .sentinel, .sentinel, .sentinel, .sentinel, .sentinel], laidTests := true, laidLooks := .later }
def DiskCutsCardSaid : Prop := Claim7.holds Tryd.pinned (.plain (OpenSpec.ofChange diskCutsSpec)) diskCutsCard

/-- THE TIED CARD OF 'cordwoodlaw4.DiskDown'. -/
def diskDownCard : Claim7 := { stood := { row := diskDownRow, standIns := [], harness := (true, "181be817e718b2bebd36cebb577ba102161c9f4ac41bae6bb1436b0332a42727"), looks := true }, kinds := [], alts := [], laidByText := true, laidKinds := [.sentinel, .sentinel, .sentinel, .sentinel, .sentinel, .sentinel, .sentinel, .sentinel, .sentinel, .sentinel, .sentinel, .sentinel, .sentinel, .sentinel, .sentinel, .sentinel, .sentinel, .sentinel, .sentinel], laidTests := true, laidLooks := .later }
def DiskDownCardSaid : Prop := Claim7.holds Tryd.pinned (.plain (OpenSpec.ofChange diskDownSpec)) diskDownCard

/-- THE TIED CARD OF 'cordwoodlaw8.PointFirst'. -/
def pointFirstCard : Claim7 := { stood := { row := pointFirstRow, standIns := [], harness := (true, "181be817e718b2bebd36cebb577ba102161c9f4ac41bae6bb1436b0332a42727"), looks := true }, kinds := [], alts := [], laidByText := true, laidKinds := [.sentinel, .sentinel, .sentinel, .sentinel, .sentinel, .sentinel, .sentinel, .sentinel, .sentinel, .sentinel, .sentinel, .sentinel, .sentinel, .sentinel, .sentinel, .sentinel, .sentinel, .sentinel, .sentinel], laidTests := true, laidLooks := .later }
def PointFirstCardSaid : Prop := Claim7.holds Tryd.pinned (.plain (OpenSpec.ofChange pointFirstSpec)) pointFirstCard

/-- THE TIED CARD OF 'cordwoodlaw8.PointKeeps'. -/
def pointKeepsCard : Claim7 := { stood := { row := pointKeepsRow, standIns := [], harness := (true, "181be817e718b2bebd36cebb577ba102161c9f4ac41bae6bb1436b0332a42727"), looks := true }, kinds := [], alts := [], laidByText := true, laidKinds := [.sentinel, .sentinel, .sentinel, .sentinel, .sentinel, .sentinel, .sentinel, .sentinel, .sentinel, .sentinel, .sentinel, .sentinel, .sentinel, .sentinel, .sentinel, .sentinel, .sentinel, .sentinel, .sentinel], laidTests := true, laidLooks := .later }
def PointKeepsCardSaid : Prop := Claim7.holds Tryd.pinned (.plain (OpenSpec.ofChange pointKeepsSpec)) pointKeepsCard

/-- THE TIED CARD OF 'cordwoodlaw8.PointMany'. -/
def pointManyCard : Claim7 := { stood := { row := pointManyRow, standIns := [], harness := (true, "181be817e718b2bebd36cebb577ba102161c9f4ac41bae6bb1436b0332a42727"), looks := true }, kinds := [], alts := [], laidByText := true, laidKinds := [.sentinel, .sentinel, .sentinel, .sentinel, .sentinel, .sentinel, .sentinel, .sentinel], laidTests := true, laidLooks := .later }
def PointManyCardSaid : Prop := Claim7.holds Tryd.pinned (.plain (OpenSpec.ofChange pointManySpec)) pointManyCard

/-- THE TIED CARD OF 'cordwoodlaw8.PointNames'. -/
def pointNamesCard : Claim7 := { stood := { row := pointNamesRow, standIns := [], harness := (true, "181be817e718b2bebd36cebb577ba102161c9f4ac41bae6bb1436b0332a42727"), looks := true }, kinds := [], alts := [], laidByText := true, laidKinds := [.sentinel, .sentinel, .sentinel, .sentinel, .sentinel, .sentinel, .sentinel, .sentinel, .sentinel, .sentinel, .sentinel, .sentinel, .sentinel, .sentinel, .sentinel, .sentinel, .sentinel, .sentinel, .sentinel], laidTests := true, laidLooks := .later }
def PointNamesCardSaid : Prop := Claim7.holds Tryd.pinned (.plain (OpenSpec.ofChange pointNamesSpec)) pointNamesCard

/-- THE TIED CARD OF 'cordwoodlaw4.DiskNames'. -/
def diskNamesCard : Claim7 := { stood := { row := diskNamesRow, standIns := [], harness := (true, "181be817e718b2bebd36cebb577ba102161c9f4ac41bae6bb1436b0332a42727"), looks := true }, kinds := [], alts := [], laidByText := true, laidKinds := [.sentinel, .sentinel, .sentinel, .sentinel, .sentinel, .sentinel], laidTests := true, laidLooks := .later }
def DiskNamesCardSaid : Prop := Claim7.holds Tryd.pinned (.plain (OpenSpec.ofChange diskNamesSpec)) diskNamesCard

/-- THE TIED CARD OF 'cordwoodlaw4.DiskMoves'. -/
def diskMovesCard : Claim7 := { stood := { row := diskMovesRow, standIns := [], harness := (true, "181be817e718b2bebd36cebb577ba102161c9f4ac41bae6bb1436b0332a42727"), looks := true }, kinds := [], alts := [], laidByText := true, laidKinds := [.sentinel, .sentinel, .sentinel, .sentinel, .sentinel, .sentinel], laidTests := true, laidLooks := .later }
def DiskMovesCardSaid : Prop := Claim7.holds Tryd.pinned (.plain (OpenSpec.ofChange diskMovesSpec)) diskMovesCard

/-- THE SECOND FORM's CARD OF 'cordwoodlaw4.DiskRooms'. -/
def diskRoomsUptoCard : Claim7 := { stood := { row := diskRoomsUptoRow, standIns := [], harness := (true, "181be817e718b2bebd36cebb577ba102161c9f4ac41bae6bb1436b0332a42727"), looks := true }, kinds := [], alts := [], laidByText := true, laidKinds := [.sentinel, .sentinel, .sentinel, .sentinel, .sentinel, .sentinel, .sentinel, .sentinel, .sentinel, .sentinel, .sentinel, .sentinel, .sentinel, .sentinel, .sentinel, .sentinel, .sentinel, .sentinel, .sentinel], laidTests := true, laidLooks := .later }
def DiskRoomsUptoCardSaid : Prop := Claim7.holds Tryd.pinned (.plain (OpenSpec.upto diskRoomsSpec)) diskRoomsUptoCard

/-- THE SECOND FORM's CARD OF 'cordwoodlaw8.PointFull'. -/
def pointFullUptoCard : Claim7 := { stood := { row := pointFullUptoRow, standIns := [], harness := (true, "181be817e718b2bebd36cebb577ba102161c9f4ac41bae6bb1436b0332a42727"), looks := true }, kinds := [], alts := [], laidByText := true, laidKinds := [.sentinel, .sentinel, .sentinel, .sentinel, .sentinel, .sentinel, .sentinel, .sentinel], laidTests := true, laidLooks := .later }
def PointFullUptoCardSaid : Prop := Claim7.holds Tryd.pinned (.plain (OpenSpec.upto pointFullSpec)) pointFullUptoCard

/-- THE SECOND FORM's CARD OF 'cordwoodlaw4.DiskArms'. -/
def diskArmsUptoCard : Claim7 := { stood := { row := diskArmsUptoRow, standIns := [], harness := (true, "181be817e718b2bebd36cebb577ba102161c9f4ac41bae6bb1436b0332a42727"), looks := true }, kinds := [], alts := [], laidByText := true, laidKinds := [.sentinel, .sentinel, .sentinel, .sentinel, .sentinel, .sentinel, .sentinel, .sentinel, .sentinel, .sentinel, .sentinel, .sentinel, .sentinel, .sentinel, .sentinel, .sentinel, .sentinel, .sentinel, .sentinel], laidTests := true, laidLooks := .later }
def DiskArmsUptoCardSaid : Prop := Claim7.holds Tryd.pinned (.plain (OpenSpec.upto diskArmsSpec)) diskArmsUptoCard

/-- THE SECOND FORM's CARD OF 'cordwoodlaw4.DiskKeeps'. -/
def diskKeepsUptoCard : Claim7 := { stood := { row := diskKeepsUptoRow, standIns := [], harness := (true, "181be817e718b2bebd36cebb577ba102161c9f4ac41bae6bb1436b0332a42727"), looks := true }, kinds := [], alts := [], laidByText := true, laidKinds := [.sentinel, .sentinel, .sentinel, .sentinel, .sentinel, .sentinel, .sentinel, .sentinel, .sentinel, .sentinel, .sentinel, .sentinel, .sentinel, .sentinel, .sentinel, .sentinel, .sentinel, .sentinel, .sentinel], laidTests := true, laidLooks := .later }
def DiskKeepsUptoCardSaid : Prop := Claim7.holds Tryd.pinned (.plain (OpenSpec.upto diskKeepsSpec)) diskKeepsUptoCard

/-- THE SECOND FORM's CARD OF 'cordwoodlaw4.DiskCuts'. -/
def diskCutsUptoCard : Claim7 := { stood := { row := diskCutsUptoRow, standIns := [], harness := (true, "181be817e718b2bebd36cebb577ba102161c9f4ac41bae6bb1436b0332a42727"), looks := true }, kinds := [], alts := [], laidByText := true, laidKinds := [.sentinel, .sentinel, .sentinel, .sentinel, .sentinel, .sentinel, .sentinel, .sentinel, .sentinel, .sentinel, .sentinel, .sentinel, .sentinel, .sentinel, .sentinel, .sentinel, .sentinel, .sentinel, .sentinel], laidTests := true, laidLooks := .later }
def DiskCutsUptoCardSaid : Prop := Claim7.holds Tryd.pinned (.plain (OpenSpec.upto diskCutsSpec)) diskCutsUptoCard

/-- THE SECOND FORM's CARD OF 'cordwoodlaw4.DiskDown'. -/
def diskDownUptoCard : Claim7 := { stood := { row := diskDownUptoRow, standIns := [], harness := (true, "181be817e718b2bebd36cebb577ba102161c9f4ac41bae6bb1436b0332a42727"), looks := true }, kinds := [], alts := [], laidByText := true, laidKinds := [.sentinel, .sentinel, .sentinel, .sentinel, .sentinel, .sentinel, .sentinel, .sentinel, .sentinel, .sentinel, .sentinel, .sentinel, .sentinel, .sentinel, .sentinel, .sentinel, .sentinel, .sentinel, .sentinel], laidTests := true, laidLooks := .later }
def DiskDownUptoCardSaid : Prop := Claim7.holds Tryd.pinned (.plain (OpenSpec.upto diskDownSpec)) diskDownUptoCard

/-- THE SECOND FORM's CARD OF 'cordwoodlaw8.PointFirst'. -/
def pointFirstUptoCard : Claim7 := { stood := { row := pointFirstUptoRow, standIns := [], harness := (true, "181be817e718b2bebd36cebb577ba102161c9f4ac41bae6bb1436b0332a42727"), looks := true }, kinds := [], alts := [], laidByText := true, laidKinds := [.sentinel, .sentinel, .sentinel, .sentinel, .sentinel, .sentinel, .sentinel, .sentinel, .sentinel, .sentinel, .sentinel, .sentinel, .sentinel, .sentinel, .sentinel, .sentinel, .sentinel, .sentinel, .sentinel], laidTests := true, laidLooks := .later }
def PointFirstUptoCardSaid : Prop := Claim7.holds Tryd.pinned (.plain (OpenSpec.upto pointFirstSpec)) pointFirstUptoCard

/-- THE SECOND FORM's CARD OF 'cordwoodlaw8.PointKeeps'. -/
def pointKeepsUptoCard : Claim7 := { stood := { row := pointKeepsUptoRow, standIns := [], harness := (true, "181be817e718b2bebd36cebb577ba102161c9f4ac41bae6bb1436b0332a42727"), looks := true }, kinds := [], alts := [], laidByText := true, laidKinds := [.sentinel, .sentinel, .sentinel, .sentinel, .sentinel, .sentinel, .sentinel, .sentinel, .sentinel, .sentinel, .sentinel, .sentinel, .sentinel, .sentinel, .sentinel, .sentinel, .sentinel, .sentinel, .sentinel], laidTests := true, laidLooks := .later }
def PointKeepsUptoCardSaid : Prop := Claim7.holds Tryd.pinned (.plain (OpenSpec.upto pointKeepsSpec)) pointKeepsUptoCard

/-- THE SECOND FORM's CARD OF 'cordwoodlaw8.PointMany'. -/
def pointManyUptoCard : Claim7 := { stood := { row := pointManyUptoRow, standIns := [], harness := (true, "181be817e718b2bebd36cebb577ba102161c9f4ac41bae6bb1436b0332a42727"), looks := true }, kinds := [], alts := [], laidByText := true, laidKinds := [.sentinel, .sentinel, .sentinel, .sentinel, .sentinel, .sentinel, .sentinel, .sentinel], laidTests := true, laidLooks := .later }
def PointManyUptoCardSaid : Prop := Claim7.holds Tryd.pinned (.plain (OpenSpec.upto pointManySpec)) pointManyUptoCard

/-- THE SECOND FORM's CARD OF 'cordwoodlaw8.PointNames'. -/
def pointNamesUptoCard : Claim7 := { stood := { row := pointNamesUptoRow, standIns := [], harness := (true, "181be817e718b2bebd36cebb577ba102161c9f4ac41bae6bb1436b0332a42727"), looks := true }, kinds := [], alts := [], laidByText := true, laidKinds := [.sentinel, .sentinel, .sentinel, .sentinel, .sentinel, .sentinel, .sentinel, .sentinel, .sentinel, .sentinel, .sentinel, .sentinel, .sentinel, .sentinel, .sentinel, .sentinel, .sentinel, .sentinel, .sentinel], laidTests := true, laidLooks := .later }
def PointNamesUptoCardSaid : Prop := Claim7.holds Tryd.pinned (.plain (OpenSpec.upto pointNamesSpec)) pointNamesUptoCard

/-- THE SECOND FORM's CARD OF 'cordwoodlaw4.DiskNames'. -/
def diskNamesUptoCard : Claim7 := { stood := { row := diskNamesUptoRow, standIns := [], harness := (true, "181be817e718b2bebd36cebb577ba102161c9f4ac41bae6bb1436b0332a42727"), looks := true }, kinds := [], alts := [], laidByText := true, laidKinds := [.sentinel, .sentinel, .sentinel, .sentinel, .sentinel, .sentinel], laidTests := true, laidLooks := .later }
def DiskNamesUptoCardSaid : Prop := Claim7.holds Tryd.pinned (.plain (OpenSpec.upto diskNamesSpec)) diskNamesUptoCard

/-- THE SECOND FORM's CARD OF 'cordwoodlaw4.DiskMoves'. -/
def diskMovesUptoCard : Claim7 := { stood := { row := diskMovesUptoRow, standIns := [], harness := (true, "181be817e718b2bebd36cebb577ba102161c9f4ac41bae6bb1436b0332a42727"), looks := true }, kinds := [], alts := [], laidByText := true, laidKinds := [.sentinel, .sentinel, .sentinel, .sentinel, .sentinel, .sentinel], laidTests := true, laidLooks := .later }
def DiskMovesUptoCardSaid : Prop := Claim7.holds Tryd.pinned (.plain (OpenSpec.upto diskMovesSpec)) diskMovesUptoCard
end Rows
end Go.Proofs.YthlnkniocklegaaDoor
