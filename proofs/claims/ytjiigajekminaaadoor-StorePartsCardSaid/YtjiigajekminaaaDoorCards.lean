/-
  DERIVED. GIVEN WITH THE SEED: THE CARDS: each row of YtjiigajekminaaaDoorRows.lean that lists a variable, with what it lists TIED to the program's text (the seventh form; the later family's looks); each row that meets fmt, with fmt's text TOLD by the authors' own Lean function (tested against real Go, not proved from fmt's source: count such statements apart). THE CARD IS WHAT COUNTS. Prove the row's statement (the work); the ties are given (YtjiigajekminaaaDoorTie.lean); close each card by the builder's one call (the guide's Derived/Test/ToyasCard.lean, 'card_holds'). Laid BY PROGRAM, IN A SANDBOX (cutbox-door.mjs). By AI agents, Wed Nov 11 2026. No macro, syntax, notation, axiom, sorry.
-/
import Derived.Test.YtjiigajekminaaaDoorRows
import GoSem.ClaimSeven
namespace Go.Proofs.YtjiigajekminaaaDoor
namespace Rows

/-- THE TIED CARD OF 'cordwoodlaw11.StoreOutcomes'. -/
def storeOutcomesCard : Claim7 := { stood := { row := storeOutcomesRow, standIns := [], harness := (true, "65378acf01929d5226a3ae1c18d8771b67662247420b1a4b7dc8011e8dce4633"), looks := true }, kinds := [], alts := [], laidByText := true, laidKinds := [.sentinel, .sentinel, .sentinel, .sentinel, .sentinel, .sentinel, .sentinel, .sentinel, .sentinel, .sentinel, .sentinel, .sentinel, .sentinel, .sentinel, .sentinel, .sentinel, .sentinel, .sentinel, .sentinel], laidTests := true, laidLooks := .later }
def StoreOutcomesCardSaid : Prop := Claim7.holds Tryd.pinned (.plain (OpenSpec.ofChange storeOutcomesSpec)) storeOutcomesCard

/-- THE TIED CARD OF 'cordwoodlaw13.PartMakes'. -/
def partMakesCard : Claim7 := { stood := { row := partMakesRow, standIns := [], harness := (true, "65378acf01929d5226a3ae1c18d8771b67662247420b1a4b7dc8011e8dce4633"), looks := true }, kinds := [], alts := [], laidByText := true, laidKinds := [.sentinel, .sentinel, .sentinel, .sentinel, .sentinel, .sentinel, .sentinel, .sentinel, .sentinel, .sentinel, .sentinel, .sentinel, .sentinel, .sentinel, .sentinel, .sentinel, .sentinel, .sentinel, .sentinel], laidTests := true, laidLooks := .later }
def PartMakesCardSaid : Prop := Claim7.holds Tryd.pinned (.plain (OpenSpec.ofChange partMakesSpec)) partMakesCard

/-- THE TIED CARD OF 'cordwoodlaw12.CallCounts'. -/
def callCountsCard : Claim7 := { stood := { row := callCountsRow, standIns := [], harness := (true, "65378acf01929d5226a3ae1c18d8771b67662247420b1a4b7dc8011e8dce4633"), looks := true }, kinds := [], alts := [], laidByText := true, laidKinds := [.sentinel, .sentinel, .sentinel], laidTests := true, laidLooks := .later }
def CallCountsCardSaid : Prop := Claim7.holds Tryd.pinned (.plain (OpenSpec.ofChange callCountsSpec)) callCountsCard

/-- THE TIED CARD OF 'cordwoodlaw12.CallEnds'. -/
def callEndsCard : Claim7 := { stood := { row := callEndsRow, standIns := [], harness := (true, "65378acf01929d5226a3ae1c18d8771b67662247420b1a4b7dc8011e8dce4633"), looks := true }, kinds := [], alts := [], laidByText := true, laidKinds := [.sentinel, .sentinel, .sentinel, .sentinel, .sentinel, .sentinel, .sentinel, .sentinel, .sentinel, .sentinel, .sentinel, .sentinel, .sentinel, .sentinel, .sentinel, .sentinel, .sentinel, .sentinel, .sentinel], laidTests := true, laidLooks := .later }
def CallEndsCardSaid : Prop := Claim7.holds Tryd.pinned (.plain (OpenSpec.ofChange callEndsSpec)) callEndsCard

/-- THE TIED CARD OF 'cordwoodlaw11.StoreRanges'. -/
def storeRangesCard : Claim7 := { stood := { row := storeRangesRow, standIns := [], harness := (true, "65378acf01929d5226a3ae1c18d8771b67662247420b1a4b7dc8011e8dce4633"), looks := true }, kinds := [], alts := [], laidByText := true, laidKinds := [.sentinel, .sentinel, .sentinel, .sentinel, .sentinel, .sentinel, .sentinel, .sentinel, .sentinel, .sentinel, .sentinel, .sentinel, .sentinel, .sentinel, .sentinel, .sentinel, .sentinel, .sentinel, .sentinel], laidTests := true, laidLooks := .later }
def StoreRangesCardSaid : Prop := Claim7.holds Tryd.pinned (.plain (OpenSpec.ofChange storeRangesSpec)) storeRangesCard

/-- THE TIED CARD OF 'cordwoodlaw12.CallTwice'. -/
def callTwiceCard : Claim7 := { stood := { row := callTwiceRow, standIns := [], harness := (true, "65378acf01929d5226a3ae1c18d8771b67662247420b1a4b7dc8011e8dce4633"), looks := true }, kinds := [], alts := [], laidByText := true, laidKinds := [.sentinel, .sentinel, .sentinel, .sentinel, .sentinel, .sentinel, .sentinel, .sentinel, .sentinel, .sentinel, .sentinel, .sentinel, .sentinel, .sentinel, .sentinel, .sentinel, .sentinel, .sentinel, .sentinel], laidTests := true, laidLooks := .later }
def CallTwiceCardSaid : Prop := Claim7.holds Tryd.pinned (.plain (OpenSpec.ofChange callTwiceSpec)) callTwiceCard

/-- THE TIED CARD OF 'cordwoodlaw13.PartTwice'. -/
def partTwiceCard : Claim7 := { stood := { row := partTwiceRow, standIns := [], harness := (true, "65378acf01929d5226a3ae1c18d8771b67662247420b1a4b7dc8011e8dce4633"), looks := true }, kinds := [], alts := [], laidByText := true, laidKinds := [.sentinel, .sentinel, .sentinel, .sentinel, .sentinel], laidTests := true, laidLooks := .later }
def PartTwiceCardSaid : Prop := Claim7.holds Tryd.pinned (.plain (OpenSpec.ofChange partTwiceSpec)) partTwiceCard

/-- THE TIED CARD OF 'cordwoodlaw13.PartLost'. -/
def partLostCard : Claim7 := { stood := { row := partLostRow, standIns := [], harness := (true, "65378acf01929d5226a3ae1c18d8771b67662247420b1a4b7dc8011e8dce4633"), looks := true }, kinds := [], alts := [], laidByText := true, laidKinds := [.sentinel, .sentinel, .sentinel, .sentinel, .sentinel, .sentinel, .sentinel, .sentinel, .sentinel, .sentinel, .sentinel, .sentinel, .sentinel, .sentinel, .sentinel, .sentinel, .sentinel, .sentinel, .sentinel], laidTests := true, laidLooks := .later }
def PartLostCardSaid : Prop := Claim7.holds Tryd.pinned (.plain (OpenSpec.ofChange partLostSpec)) partLostCard

/-- THE TIED CARD OF 'cordwoodlaw13.PartAnew'. -/
def partAnewCard : Claim7 := { stood := { row := partAnewRow, standIns := [], harness := (true, "65378acf01929d5226a3ae1c18d8771b67662247420b1a4b7dc8011e8dce4633"), looks := true }, kinds := [], alts := [], laidByText := true, laidKinds := [.sentinel, .sentinel, .sentinel, .sentinel, .sentinel, .sentinel, .sentinel, .sentinel, .sentinel, .sentinel, .sentinel, .sentinel, .sentinel, .sentinel, .sentinel, .sentinel, .sentinel, .sentinel, .sentinel], laidTests := true, laidLooks := .later }
def PartAnewCardSaid : Prop := Claim7.holds Tryd.pinned (.plain (OpenSpec.ofChange partAnewSpec)) partAnewCard

/-- THE TIED CARD OF 'cordwoodlaw11.StoreLists'. -/
def storeListsCard : Claim7 := { stood := { row := storeListsRow, standIns := [], harness := (true, "65378acf01929d5226a3ae1c18d8771b67662247420b1a4b7dc8011e8dce4633"), looks := true }, kinds := [], alts := [], laidByText := true, laidKinds := [.sentinel, .sentinel, .sentinel, .sentinel, .sentinel, .sentinel, .sentinel, .sentinel, .sentinel, .sentinel, .sentinel, .sentinel, .sentinel, .sentinel, .sentinel, .sentinel, .sentinel, .sentinel, .sentinel], laidTests := true, laidLooks := .later }
def StoreListsCardSaid : Prop := Claim7.holds Tryd.pinned (.plain (OpenSpec.ofChange storeListsSpec)) storeListsCard

/-- THE TIED CARD OF 'cordwoodlaw12.CallStarts'. -/
def callStartsCard : Claim7 := { stood := { row := callStartsRow, standIns := [], harness := (true, "65378acf01929d5226a3ae1c18d8771b67662247420b1a4b7dc8011e8dce4633"), looks := true }, kinds := [], alts := [], laidByText := true, laidKinds := [.sentinel, .sentinel, .sentinel, .sentinel, .sentinel, .sentinel, .sentinel, .sentinel, .sentinel, .sentinel, .sentinel, .sentinel, .sentinel, .sentinel, .sentinel, .sentinel, .sentinel, .sentinel, .sentinel], laidTests := true, laidLooks := .later }
def CallStartsCardSaid : Prop := Claim7.holds Tryd.pinned (.plain (OpenSpec.ofChange callStartsSpec)) callStartsCard

/-- THE TIED CARD OF 'cordwoodlaw11.StoreApart'. -/
def storeApartCard : Claim7 := { stood := { row := storeApartRow, standIns := [], harness := (true, "65378acf01929d5226a3ae1c18d8771b67662247420b1a4b7dc8011e8dce4633"), looks := true }, kinds := [], alts := [], laidByText := true, laidKinds := [.sentinel, .sentinel, .sentinel, .sentinel, .sentinel, .sentinel, .sentinel, .sentinel, .sentinel, .sentinel, .sentinel, .sentinel, .sentinel, .sentinel, .sentinel, .sentinel, .sentinel, .sentinel, .sentinel], laidTests := true, laidLooks := .later }
def StoreApartCardSaid : Prop := Claim7.holds Tryd.pinned (.plain (OpenSpec.ofChange storeApartSpec)) storeApartCard

/-- THE TIED CARD OF 'cordwoodlaw11.StoreParts'. -/
def storePartsCard : Claim7 := { stood := { row := storePartsRow, standIns := [], harness := (true, "65378acf01929d5226a3ae1c18d8771b67662247420b1a4b7dc8011e8dce4633"), looks := true }, kinds := [], alts := [], laidByText := true, laidKinds := [.sentinel, .sentinel, .sentinel, .sentinel, .sentinel, .sentinel, .sentinel, .sentinel, .sentinel, .sentinel, .sentinel, .sentinel, .sentinel, .sentinel, .sentinel, .sentinel, .sentinel, .sentinel, .sentinel], laidTests := true, laidLooks := .later }
def StorePartsCardSaid : Prop := Claim7.holds Tryd.pinned (.plain (OpenSpec.ofChange storePartsSpec)) storePartsCard

/-- THE TIED CARD OF 'cordwoodlaw11.StoreCopies'. -/
def storeCopiesCard : Claim7 := { stood := { row := storeCopiesRow, standIns := [], harness := (true, "65378acf01929d5226a3ae1c18d8771b67662247420b1a4b7dc8011e8dce4633"), looks := true }, kinds := [], alts := [], laidByText := true, laidKinds := [.sentinel, .sentinel, .sentinel, .sentinel, .sentinel, .sentinel, .sentinel, .sentinel, .sentinel, .sentinel, .sentinel, .sentinel, .sentinel, .sentinel, .sentinel, .sentinel, .sentinel, .sentinel, .sentinel], laidTests := true, laidLooks := .later }
def StoreCopiesCardSaid : Prop := Claim7.holds Tryd.pinned (.plain (OpenSpec.ofChange storeCopiesSpec)) storeCopiesCard

/-- THE TIED CARD OF 'cordwoodlaw12.CallReads'. -/
def callReadsCard : Claim7 := { stood := { row := callReadsRow, standIns := [], harness := (true, "65378acf01929d5226a3ae1c18d8771b67662247420b1a4b7dc8011e8dce4633"), looks := true }, kinds := [], alts := [], laidByText := true, laidKinds := [.sentinel, .sentinel, .sentinel, .sentinel, .sentinel, .sentinel, .sentinel, .sentinel, .sentinel, .sentinel, .sentinel, .sentinel, .sentinel, .sentinel, .sentinel, .sentinel, .sentinel, .sentinel, .sentinel], laidTests := true, laidLooks := .later }
def CallReadsCardSaid : Prop := Claim7.holds Tryd.pinned (.plain (OpenSpec.ofChange callReadsSpec)) callReadsCard

/-- THE TIED CARD OF 'cordwoodlaw13.PartSteps'. -/
def partStepsCard : Claim7 := { stood := { row := partStepsRow, standIns := [], harness := (true, "65378acf01929d5226a3ae1c18d8771b67662247420b1a4b7dc8011e8dce4633"), looks := true }, kinds := [], alts := [], laidByText := true, laidKinds := [.sentinel, .sentinel, .sentinel, .sentinel, .sentinel, .sentinel, .sentinel, .sentinel, .sentinel, .sentinel, .sentinel, .sentinel, .sentinel, .sentinel, .sentinel, .sentinel, .sentinel, .sentinel, .sentinel], laidTests := true, laidLooks := .later }
def PartStepsCardSaid : Prop := Claim7.holds Tryd.pinned (.plain (OpenSpec.ofChange partStepsSpec)) partStepsCard

/-- THE TIED CARD OF 'cordwoodlaw13.PartCounts'. -/
def partCountsCard : Claim7 := { stood := { row := partCountsRow, standIns := [], harness := (true, "65378acf01929d5226a3ae1c18d8771b67662247420b1a4b7dc8011e8dce4633"), looks := true }, kinds := [], alts := [], laidByText := true, laidKinds := [.sentinel, .sentinel, .sentinel, .sentinel, .sentinel], laidTests := true, laidLooks := .later }
def PartCountsCardSaid : Prop := Claim7.holds Tryd.pinned (.plain (OpenSpec.ofChange partCountsSpec)) partCountsCard

/-- THE SECOND FORM's CARD OF 'cordwoodlaw11.StoreOutcomes'. -/
def storeOutcomesUptoCard : Claim7 := { stood := { row := storeOutcomesUptoRow, standIns := [], harness := (true, "65378acf01929d5226a3ae1c18d8771b67662247420b1a4b7dc8011e8dce4633"), looks := true }, kinds := [], alts := [], laidByText := true, laidKinds := [.sentinel, .sentinel, .sentinel, .sentinel, .sentinel, .sentinel, .sentinel, .sentinel, .sentinel, .sentinel, .sentinel, .sentinel, .sentinel, .sentinel, .sentinel, .sentinel, .sentinel, .sentinel, .sentinel], laidTests := true, laidLooks := .later }
def StoreOutcomesUptoCardSaid : Prop := Claim7.holds Tryd.pinned (.plain (OpenSpec.upto storeOutcomesSpec)) storeOutcomesUptoCard

/-- THE SECOND FORM's CARD OF 'cordwoodlaw13.PartMakes'. -/
def partMakesUptoCard : Claim7 := { stood := { row := partMakesUptoRow, standIns := [], harness := (true, "65378acf01929d5226a3ae1c18d8771b67662247420b1a4b7dc8011e8dce4633"), looks := true }, kinds := [], alts := [], laidByText := true, laidKinds := [.sentinel, .sentinel, .sentinel, .sentinel, .sentinel, .sentinel, .sentinel, .sentinel, .sentinel, .sentinel, .sentinel, .sentinel, .sentinel, .sentinel, .sentinel, .sentinel, .sentinel, .sentinel, .sentinel], laidTests := true, laidLooks := .later }
def PartMakesUptoCardSaid : Prop := Claim7.holds Tryd.pinned (.plain (OpenSpec.upto partMakesSpec)) partMakesUptoCard

/-- THE SECOND FORM's CARD OF 'cordwoodlaw12.CallCounts'. -/
def callCountsUptoCard : Claim7 := { stood := { row := callCountsUptoRow, standIns := [], harness := (true, "65378acf01929d5226a3ae1c18d8771b67662247420b1a4b7dc8011e8dce4633"), looks := true }, kinds := [], alts := [], laidByText := true, laidKinds := [.sentinel, .sentinel, .sentinel], laidTests := true, laidLooks := .later }
def CallCountsUptoCardSaid : Prop := Claim7.holds Tryd.pinned (.plain (OpenSpec.upto callCountsSpec)) callCountsUptoCard

/-- THE SECOND FORM's CARD OF 'cordwoodlaw12.CallEnds'. -/
def callEndsUptoCard : Claim7 := { stood := { row := callEndsUptoRow, standIns := [], harness := (true, "65378acf01929d5226a3ae1c18d8771b67662247420b1a4b7dc8011e8dce4633"), looks := true }, kinds := [], alts := [], laidByText := true, laidKinds := [.sentinel, .sentinel, .sentinel, .sentinel, .sentinel, .sentinel, .sentinel, .sentinel, .sentinel, .sentinel, .sentinel, .sentinel, .sentinel, .sentinel, .sentinel, .sentinel, .sentinel, .sentinel, .sentinel], laidTests := true, laidLooks := .later }
def CallEndsUptoCardSaid : Prop := Claim7.holds Tryd.pinned (.plain (OpenSpec.upto callEndsSpec)) callEndsUptoCard

/-- THE SECOND FORM's CARD OF 'cordwoodlaw11.StoreRanges'. -/
def storeRangesUptoCard : Claim7 := { stood := { row := storeRangesUptoRow, standIns := [], harness := (true, "65378acf01929d5226a3ae1c18d8771b67662247420b1a4b7dc8011e8dce4633"), looks := true }, kinds := [], alts := [], laidByText := true, laidKinds := [.sentinel, .sentinel, .sentinel, .sentinel, .sentinel, .sentinel, .sentinel, .sentinel, .sentinel, .sentinel, .sentinel, .sentinel, .sentinel, .sentinel, .sentinel, .sentinel, .sentinel, .sentinel, .sentinel], laidTests := true, laidLooks := .later }
def StoreRangesUptoCardSaid : Prop := Claim7.holds Tryd.pinned (.plain (OpenSpec.upto storeRangesSpec)) storeRangesUptoCard

/-- THE SECOND FORM's CARD OF 'cordwoodlaw12.CallTwice'. -/
def callTwiceUptoCard : Claim7 := { stood := { row := callTwiceUptoRow, standIns := [], harness := (true, "65378acf01929d5226a3ae1c18d8771b67662247420b1a4b7dc8011e8dce4633"), looks := true }, kinds := [], alts := [], laidByText := true, laidKinds := [.sentinel, .sentinel, .sentinel, .sentinel, .sentinel, .sentinel, .sentinel, .sentinel, .sentinel, .sentinel, .sentinel, .sentinel, .sentinel, .sentinel, .sentinel, .sentinel, .sentinel, .sentinel, .sentinel], laidTests := true, laidLooks := .later }
def CallTwiceUptoCardSaid : Prop := Claim7.holds Tryd.pinned (.plain (OpenSpec.upto callTwiceSpec)) callTwiceUptoCard

/-- THE SECOND FORM's CARD OF 'cordwoodlaw13.PartTwice'. -/
def partTwiceUptoCard : Claim7 := { stood := { row := partTwiceUptoRow, standIns := [], harness := (true, "65378acf01929d5226a3ae1c18d8771b67662247420b1a4b7dc8011e8dce4633"), looks := true }, kinds := [], alts := [], laidByText := true, laidKinds := [.sentinel, .sentinel, .sentinel, .sentinel, .sentinel], laidTests := true, laidLooks := .later }
def PartTwiceUptoCardSaid : Prop := Claim7.holds Tryd.pinned (.plain (OpenSpec.upto partTwiceSpec)) partTwiceUptoCard

/-- THE SECOND FORM's CARD OF 'cordwoodlaw13.PartLost'. -/
def partLostUptoCard : Claim7 := { stood := { row := partLostUptoRow, standIns := [], harness := (true, "65378acf01929d5226a3ae1c18d8771b67662247420b1a4b7dc8011e8dce4633"), looks := true }, kinds := [], alts := [], laidByText := true, laidKinds := [.sentinel, .sentinel, .sentinel, .sentinel, .sentinel, .sentinel, .sentinel, .sentinel, .sentinel, .sentinel, .sentinel, .sentinel, .sentinel, .sentinel, .sentinel, .sentinel, .sentinel, .sentinel, .sentinel], laidTests := true, laidLooks := .later }
def PartLostUptoCardSaid : Prop := Claim7.holds Tryd.pinned (.plain (OpenSpec.upto partLostSpec)) partLostUptoCard

/-- THE SECOND FORM's CARD OF 'cordwoodlaw13.PartAnew'. -/
def partAnewUptoCard : Claim7 := { stood := { row := partAnewUptoRow, standIns := [], harness := (true, "65378acf01929d5226a3ae1c18d8771b67662247420b1a4b7dc8011e8dce4633"), looks := true }, kinds := [], alts := [], laidByText := true, laidKinds := [.sentinel, .sentinel, .sentinel, .sentinel, .sentinel, .sentinel, .sentinel, .sentinel, .sentinel, .sentinel, .sentinel, .sentinel, .sentinel, .sentinel, .sentinel, .sentinel, .sentinel, .sentinel, .sentinel], laidTests := true, laidLooks := .later }
def PartAnewUptoCardSaid : Prop := Claim7.holds Tryd.pinned (.plain (OpenSpec.upto partAnewSpec)) partAnewUptoCard

/-- THE SECOND FORM's CARD OF 'cordwoodlaw11.StoreLists'. -/
def storeListsUptoCard : Claim7 := { stood := { row := storeListsUptoRow, standIns := [], harness := (true, "65378acf01929d5226a3ae1c18d8771b67662247420b1a4b7dc8011e8dce4633"), looks := true }, kinds := [], alts := [], laidByText := true, laidKinds := [.sentinel, .sentinel, .sentinel, .sentinel, .sentinel, .sentinel, .sentinel, .sentinel, .sentinel, .sentinel, .sentinel, .sentinel, .sentinel, .sentinel, .sentinel, .sentinel, .sentinel, .sentinel, .sentinel], laidTests := true, laidLooks := .later }
def StoreListsUptoCardSaid : Prop := Claim7.holds Tryd.pinned (.plain (OpenSpec.upto storeListsSpec)) storeListsUptoCard

/-- THE SECOND FORM's CARD OF 'cordwoodlaw12.CallStarts'. -/
def callStartsUptoCard : Claim7 := { stood := { row := callStartsUptoRow, standIns := [], harness := (true, "65378acf01929d5226a3ae1c18d8771b67662247420b1a4b7dc8011e8dce4633"), looks := true }, kinds := [], alts := [], laidByText := true, laidKinds := [.sentinel, .sentinel, .sentinel, .sentinel, .sentinel, .sentinel, .sentinel, .sentinel, .sentinel, .sentinel, .sentinel, .sentinel, .sentinel, .sentinel, .sentinel, .sentinel, .sentinel, .sentinel, .sentinel], laidTests := true, laidLooks := .later }
def CallStartsUptoCardSaid : Prop := Claim7.holds Tryd.pinned (.plain (OpenSpec.upto callStartsSpec)) callStartsUptoCard

/-- THE SECOND FORM's CARD OF 'cordwoodlaw11.StoreApart'. -/
def storeApartUptoCard : Claim7 := { stood := { row := storeApartUptoRow, standIns := [], harness := (true, "65378acf01929d5226a3ae1c18d8771b67662247420b1a4b7dc8011e8dce4633"), looks := true }, kinds := [], alts := [], laidByText := true, laidKinds := [.sentinel, .sentinel, .sentinel, .sentinel, .sentinel, .sentinel, .sentinel, .sentinel, .sentinel, .sentinel, .sentinel, .sentinel, .sentinel, .sentinel, .sentinel, .sentinel, .sentinel, .sentinel, .sentinel], laidTests := true, laidLooks := .later }
def StoreApartUptoCardSaid : Prop := Claim7.holds Tryd.pinned (.plain (OpenSpec.upto storeApartSpec)) storeApartUptoCard

/-- THE SECOND FORM's CARD OF 'cordwoodlaw11.StoreParts'. -/
def storePartsUptoCard : Claim7 := { stood := { row := storePartsUptoRow, standIns := [], harness := (true, "65378acf01929d5226a3ae1c18d8771b67662247420b1a4b7dc8011e8dce4633"), looks := true }, kinds := [], alts := [], laidByText := true, laidKinds := [.sentinel, .sentinel, .sentinel, .sentinel, .sentinel, .sentinel, .sentinel, .sentinel, .sentinel, .sentinel, .sentinel, .sentinel, .sentinel, .sentinel, .sentinel, .sentinel, .sentinel, .sentinel, .sentinel], laidTests := true, laidLooks := .later }
def StorePartsUptoCardSaid : Prop := Claim7.holds Tryd.pinned (.plain (OpenSpec.upto storePartsSpec)) storePartsUptoCard

/-- THE SECOND FORM's CARD OF 'cordwoodlaw11.StoreCopies'. -/
def storeCopiesUptoCard : Claim7 := { stood := { row := storeCopiesUptoRow, standIns := [], harness := (true, "65378acf01929d5226a3ae1c18d8771b67662247420b1a4b7dc8011e8dce4633"), looks := true }, kinds := [], alts := [], laidByText := true, laidKinds := [.sentinel, .sentinel, .sentinel, .sentinel, .sentinel, .sentinel, .sentinel, .sentinel, .sentinel, .sentinel, .sentinel, .sentinel, .sentinel, .sentinel, .sentinel, .sentinel, .sentinel, .sentinel, .sentinel], laidTests := true, laidLooks := .later }
def StoreCopiesUptoCardSaid : Prop := Claim7.holds Tryd.pinned (.plain (OpenSpec.upto storeCopiesSpec)) storeCopiesUptoCard

/-- THE SECOND FORM's CARD OF 'cordwoodlaw12.CallReads'. -/
def callReadsUptoCard : Claim7 := { stood := { row := callReadsUptoRow, standIns := [], harness := (true, "65378acf01929d5226a3ae1c18d8771b67662247420b1a4b7dc8011e8dce4633"), looks := true }, kinds := [], alts := [], laidByText := true, laidKinds := [.sentinel, .sentinel, .sentinel, .sentinel, .sentinel, .sentinel, .sentinel, .sentinel, .sentinel, .sentinel, .sentinel, .sentinel, .sentinel, .sentinel, .sentinel, .sentinel, .sentinel, .sentinel, .sentinel], laidTests := true, laidLooks := .later }
def CallReadsUptoCardSaid : Prop := Claim7.holds Tryd.pinned (.plain (OpenSpec.upto callReadsSpec)) callReadsUptoCard

/-- THE SECOND FORM's CARD OF 'cordwoodlaw13.PartSteps'. -/
def partStepsUptoCard : Claim7 := { stood := { row := partStepsUptoRow, standIns := [], harness := (true, "65378acf01929d5226a3ae1c18d8771b67662247420b1a4b7dc8011e8dce4633"), looks := true }, kinds := [], alts := [], laidByText := true, laidKinds := [.sentinel, .sentinel, .sentinel, .sentinel, .sentinel, .sentinel, .sentinel, .sentinel, .sentinel, .sentinel, .sentinel, .sentinel, .sentinel, .sentinel, .sentinel, .sentinel, .sentinel, .sentinel, .sentinel], laidTests := true, laidLooks := .later }
def PartStepsUptoCardSaid : Prop := Claim7.holds Tryd.pinned (.plain (OpenSpec.upto partStepsSpec)) partStepsUptoCard

/-- THE SECOND FORM's CARD OF 'cordwoodlaw13.PartCounts'. -/
def partCountsUptoCard : Claim7 := { stood := { row := partCountsUptoRow, standIns := [], harness := (true, "65378acf01929d5226a3ae1c18d8771b67662247420b1a4b7dc8011e8dce4633"), looks := true }, kinds := [], alts := [], laidByText := true, laidKinds := [.sentinel, .sentinel, .sentinel, .sentinel, .sentinel], laidTests := true, laidLooks := .later }
def PartCountsUptoCardSaid : Prop := Claim7.holds Tryd.pinned (.plain (OpenSpec.upto partCountsSpec)) partCountsUptoCard
end Rows
end Go.Proofs.YtjiigajekminaaaDoor
