/-
  DERIVED. GIVEN WITH THE SEED: THE CARDS: each row of YtbehlcfelmbmlaaGreatDoorRows.lean that lists a variable, with what it lists TIED to the program's text (the seventh form; the later family's looks); each row that meets fmt, with fmt's text TOLD by the authors' own Lean function (tested against real Go, not proved from fmt's source: count such statements apart). THE CARD IS WHAT COUNTS. Prove the row's statement (the work); the ties are given (YtbehlcfelmbmlaaGreatDoorTie.lean); close each card by the builder's one call (the guide's Derived/Test/ToyasCard.lean, 'card_holds'). Laid BY PROGRAM, IN A SANDBOX (cutbox-door.mjs). By AI agents, Wed Nov 11 2026. No macro, syntax, notation, axiom, sorry.
-/
import Derived.Test.YtbehlcfelmbmlaaGreatDoorRows
import GoSem.ClaimSeven
namespace Go.Proofs.YtbehlcfelmbmlaaGreatDoor
namespace Rows

/-- THE TIED CARD OF 'swarflaw22.DrawingText'. -/
def drawingTextCard : Claim7 := { stood := { row := drawingTextRow, standIns := [], harness := (true, "1b1c1c0a95f173429e67bba4b60ff61ed46bb01a142e71c89138dd536440edeb"), looks := true }, kinds := [], alts := [], laidByText := true, laidKinds := [.data, .data, .data, .data, .sentinel, .sentinel, .widerDeep, .data, .pinned], laidTests := true, laidLooks := .later }
def DrawingTextCardSaid : Prop := Claim7.holds Tryz.pinned (.plain (OpenSpec.ofChange drawingTextSpec)) drawingTextCard

/-- THE TIED CARD OF 'swarflaw22.DrawingParse'. -/
def drawingParseCard : Claim7 := { stood := { row := drawingParseRow, standIns := [], harness := (true, "1b1c1c0a95f173429e67bba4b60ff61ed46bb01a142e71c89138dd536440edeb"), looks := true }, kinds := [], alts := [], laidByText := true, laidKinds := [.data, .data, .data, .data, .sentinel, .sentinel, .widerDeep, .data, .pinned], laidTests := true, laidLooks := .later }
def DrawingParseCardSaid : Prop := Claim7.holds Tryz.pinned (.plain (OpenSpec.ofChange drawingParseSpec)) drawingParseCard

/-- THE TIED CARD OF 'swarflaw22.DrawingReturns'. -/
def drawingReturnsCard : Claim7 := { stood := { row := drawingReturnsRow, standIns := [], harness := (true, "1b1c1c0a95f173429e67bba4b60ff61ed46bb01a142e71c89138dd536440edeb"), looks := true }, kinds := [], alts := [], laidByText := true, laidKinds := [.data, .data, .data, .data, .sentinel, .sentinel, .widerDeep, .data, .pinned], laidTests := true, laidLooks := .later }
def DrawingReturnsCardSaid : Prop := Claim7.holds Tryz.pinned (.plain (OpenSpec.ofChange drawingReturnsSpec)) drawingReturnsCard

/-- THE TIED CARD OF 'swarflaw22.DrawingCurves'. -/
def drawingCurvesCard : Claim7 := { stood := { row := drawingCurvesRow, standIns := [], harness := (true, "1b1c1c0a95f173429e67bba4b60ff61ed46bb01a142e71c89138dd536440edeb"), looks := true }, kinds := [], alts := [], laidByText := true, laidKinds := [.data, .data, .data, .data, .sentinel, .sentinel, .widerDeep, .data, .pinned], laidTests := true, laidLooks := .later }
def DrawingCurvesCardSaid : Prop := Claim7.holds Tryz.pinned (.plain (OpenSpec.ofChange drawingCurvesSpec)) drawingCurvesCard

/-- THE TIED CARD OF 'swarflaw22.DrawingLayer'. -/
def drawingLayerCard : Claim7 := { stood := { row := drawingLayerRow, standIns := [], harness := (true, "1b1c1c0a95f173429e67bba4b60ff61ed46bb01a142e71c89138dd536440edeb"), looks := true }, kinds := [], alts := [], laidByText := true, laidKinds := [.data, .data, .data, .data, .sentinel, .sentinel, .widerDeep, .data, .pinned], laidTests := true, laidLooks := .later }
def DrawingLayerCardSaid : Prop := Claim7.holds Tryz.pinned (.plain (OpenSpec.ofChange drawingLayerSpec)) drawingLayerCard

/-- THE SECOND FORM's CARD OF 'swarflaw22.DrawingText'. -/
def drawingTextUptoCard : Claim7 := { stood := { row := drawingTextUptoRow, standIns := [], harness := (true, "1b1c1c0a95f173429e67bba4b60ff61ed46bb01a142e71c89138dd536440edeb"), looks := true }, kinds := [], alts := [], laidByText := true, laidKinds := [.data, .data, .data, .data, .sentinel, .sentinel, .widerDeep, .data, .pinned], laidTests := true, laidLooks := .later }
def DrawingTextUptoCardSaid : Prop := Claim7.holds Tryz.pinned (.plain (OpenSpec.upto drawingTextSpec)) drawingTextUptoCard

/-- THE SECOND FORM's CARD OF 'swarflaw22.DrawingParse'. -/
def drawingParseUptoCard : Claim7 := { stood := { row := drawingParseUptoRow, standIns := [], harness := (true, "1b1c1c0a95f173429e67bba4b60ff61ed46bb01a142e71c89138dd536440edeb"), looks := true }, kinds := [], alts := [], laidByText := true, laidKinds := [.data, .data, .data, .data, .sentinel, .sentinel, .widerDeep, .data, .pinned], laidTests := true, laidLooks := .later }
def DrawingParseUptoCardSaid : Prop := Claim7.holds Tryz.pinned (.plain (OpenSpec.upto drawingParseSpec)) drawingParseUptoCard

/-- THE SECOND FORM's CARD OF 'swarflaw22.DrawingReturns'. -/
def drawingReturnsUptoCard : Claim7 := { stood := { row := drawingReturnsUptoRow, standIns := [], harness := (true, "1b1c1c0a95f173429e67bba4b60ff61ed46bb01a142e71c89138dd536440edeb"), looks := true }, kinds := [], alts := [], laidByText := true, laidKinds := [.data, .data, .data, .data, .sentinel, .sentinel, .widerDeep, .data, .pinned], laidTests := true, laidLooks := .later }
def DrawingReturnsUptoCardSaid : Prop := Claim7.holds Tryz.pinned (.plain (OpenSpec.upto drawingReturnsSpec)) drawingReturnsUptoCard

/-- THE SECOND FORM's CARD OF 'swarflaw22.DrawingCurves'. -/
def drawingCurvesUptoCard : Claim7 := { stood := { row := drawingCurvesUptoRow, standIns := [], harness := (true, "1b1c1c0a95f173429e67bba4b60ff61ed46bb01a142e71c89138dd536440edeb"), looks := true }, kinds := [], alts := [], laidByText := true, laidKinds := [.data, .data, .data, .data, .sentinel, .sentinel, .widerDeep, .data, .pinned], laidTests := true, laidLooks := .later }
def DrawingCurvesUptoCardSaid : Prop := Claim7.holds Tryz.pinned (.plain (OpenSpec.upto drawingCurvesSpec)) drawingCurvesUptoCard

/-- THE SECOND FORM's CARD OF 'swarflaw22.DrawingLayer'. -/
def drawingLayerUptoCard : Claim7 := { stood := { row := drawingLayerUptoRow, standIns := [], harness := (true, "1b1c1c0a95f173429e67bba4b60ff61ed46bb01a142e71c89138dd536440edeb"), looks := true }, kinds := [], alts := [], laidByText := true, laidKinds := [.data, .data, .data, .data, .sentinel, .sentinel, .widerDeep, .data, .pinned], laidTests := true, laidLooks := .later }
def DrawingLayerUptoCardSaid : Prop := Claim7.holds Tryz.pinned (.plain (OpenSpec.upto drawingLayerSpec)) drawingLayerUptoCard
end Rows
end Go.Proofs.YtbehlcfelmbmlaaGreatDoor
