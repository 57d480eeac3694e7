/-
  DERIVED. GIVEN WITH THE SEED: THE CARDS: each row of YtkkodaemmgpgfaaGreatDoorRows.lean that lists a variable, with what it lists TIED to the program's text (the seventh form; the later family's looks); each row that meets fmt, with fmt's text TOLD by the authors' own Lean function (tested against real Go, not proved from fmt's source: count such statements apart). THE CARD IS WHAT COUNTS. Prove the row's statement (the work); the ties are given (YtkkodaemmgpgfaaGreatDoorTie.lean); close each card by the builder's one call (the guide's Derived/Test/ToyasCard.lean, 'card_holds'). Laid BY PROGRAM, IN A SANDBOX (cutbox-door.mjs). By AI agents, Wed Nov 11 2026. No macro, syntax, notation, axiom, sorry.
-/
import Derived.Test.YtkkodaemmgpgfaaGreatDoorRows
import GoSem.ClaimSeven
namespace Go.Proofs.YtkkodaemmgpgfaaGreatDoor
namespace Rows

/-- THE TIED CARD OF 'swarflaw19.CoverDistances'. -/
def coverDistancesCard : Claim7 := { stood := { row := coverDistancesRow, standIns := [], harness := (true, "e719625e60fb266ad019ca96d3db21a2b65ef0fb0f1ee13099a318514e3a4052"), looks := false }, kinds := [], alts := [], laidByText := true, laidKinds := [.data, .data, .data], laidTests := true, laidLooks := .later }
def CoverDistancesCardSaid : Prop := Claim7.holds Tryz.pinned (.plain (OpenSpec.ofChange coverDistancesSpec)) coverDistancesCard

/-- THE TIED CARD OF 'swarflaw19.CoverCover'. -/
def coverCoverCard : Claim7 := { stood := { row := coverCoverRow, standIns := [], harness := (true, "e719625e60fb266ad019ca96d3db21a2b65ef0fb0f1ee13099a318514e3a4052"), looks := false }, kinds := [], alts := [], laidByText := true, laidKinds := [.data, .data, .data], laidTests := true, laidLooks := .later }
def CoverCoverCardSaid : Prop := Claim7.holds Tryz.pinned (.plain (OpenSpec.ofChange coverCoverSpec)) coverCoverCard

/-- THE TIED CARD OF 'swarflaw19.CoverCheck'. -/
def coverCheckCard : Claim7 := { stood := { row := coverCheckRow, standIns := [], harness := (true, "e719625e60fb266ad019ca96d3db21a2b65ef0fb0f1ee13099a318514e3a4052"), looks := false }, kinds := [], alts := [], laidByText := true, laidKinds := [.data, .data, .data], laidTests := true, laidLooks := .later }
def CoverCheckCardSaid : Prop := Claim7.holds Tryz.pinned (.plain (OpenSpec.ofChange coverCheckSpec)) coverCheckCard

/-- THE TIED CARD OF 'swarflaw19.CoverQuarter'. -/
def coverQuarterCard : Claim7 := { stood := { row := coverQuarterRow, standIns := [], harness := (true, "e719625e60fb266ad019ca96d3db21a2b65ef0fb0f1ee13099a318514e3a4052"), looks := false }, kinds := [], alts := [], laidByText := true, laidKinds := [.data, .data, .data], laidTests := true, laidLooks := .later }
def CoverQuarterCardSaid : Prop := Claim7.holds Tryz.pinned (.plain (OpenSpec.ofChange coverQuarterSpec)) coverQuarterCard

/-- THE TIED CARD OF 'swarflaw19.CoverText'. -/
def coverTextCard : Claim7 := { stood := { row := coverTextRow, standIns := [], harness := (true, "e719625e60fb266ad019ca96d3db21a2b65ef0fb0f1ee13099a318514e3a4052"), looks := false }, kinds := [], alts := [], laidByText := true, laidKinds := [.data, .data, .data, .data, .pinned], laidTests := true, laidLooks := .later }
def CoverTextCardSaid : Prop := Claim7.holds Tryz.pinned (.plain (OpenSpec.ofChange coverTextSpec)) coverTextCard

/-- THE TIED CARD OF 'swarflaw19.CoverParse'. -/
def coverParseCard : Claim7 := { stood := { row := coverParseRow, standIns := [], harness := (true, "e719625e60fb266ad019ca96d3db21a2b65ef0fb0f1ee13099a318514e3a4052"), looks := false }, kinds := [], alts := [], laidByText := true, laidKinds := [.data, .data, .data, .data, .pinned], laidTests := true, laidLooks := .later }
def CoverParseCardSaid : Prop := Claim7.holds Tryz.pinned (.plain (OpenSpec.ofChange coverParseSpec)) coverParseCard

/-- THE SECOND FORM's CARD OF 'swarflaw19.CoverDistances'. -/
def coverDistancesUptoCard : Claim7 := { stood := { row := coverDistancesUptoRow, standIns := [], harness := (true, "e719625e60fb266ad019ca96d3db21a2b65ef0fb0f1ee13099a318514e3a4052"), looks := false }, kinds := [], alts := [], laidByText := true, laidKinds := [.data, .data, .data], laidTests := true, laidLooks := .later }
def CoverDistancesUptoCardSaid : Prop := Claim7.holds Tryz.pinned (.plain (OpenSpec.upto coverDistancesSpec)) coverDistancesUptoCard

/-- THE SECOND FORM's CARD OF 'swarflaw19.CoverCover'. -/
def coverCoverUptoCard : Claim7 := { stood := { row := coverCoverUptoRow, standIns := [], harness := (true, "e719625e60fb266ad019ca96d3db21a2b65ef0fb0f1ee13099a318514e3a4052"), looks := false }, kinds := [], alts := [], laidByText := true, laidKinds := [.data, .data, .data], laidTests := true, laidLooks := .later }
def CoverCoverUptoCardSaid : Prop := Claim7.holds Tryz.pinned (.plain (OpenSpec.upto coverCoverSpec)) coverCoverUptoCard

/-- THE SECOND FORM's CARD OF 'swarflaw19.CoverCheck'. -/
def coverCheckUptoCard : Claim7 := { stood := { row := coverCheckUptoRow, standIns := [], harness := (true, "e719625e60fb266ad019ca96d3db21a2b65ef0fb0f1ee13099a318514e3a4052"), looks := false }, kinds := [], alts := [], laidByText := true, laidKinds := [.data, .data, .data], laidTests := true, laidLooks := .later }
def CoverCheckUptoCardSaid : Prop := Claim7.holds Tryz.pinned (.plain (OpenSpec.upto coverCheckSpec)) coverCheckUptoCard

/-- THE SECOND FORM's CARD OF 'swarflaw19.CoverQuarter'. -/
def coverQuarterUptoCard : Claim7 := { stood := { row := coverQuarterUptoRow, standIns := [], harness := (true, "e719625e60fb266ad019ca96d3db21a2b65ef0fb0f1ee13099a318514e3a4052"), looks := false }, kinds := [], alts := [], laidByText := true, laidKinds := [.data, .data, .data], laidTests := true, laidLooks := .later }
def CoverQuarterUptoCardSaid : Prop := Claim7.holds Tryz.pinned (.plain (OpenSpec.upto coverQuarterSpec)) coverQuarterUptoCard

/-- THE SECOND FORM's CARD OF 'swarflaw19.CoverText'. -/
def coverTextUptoCard : Claim7 := { stood := { row := coverTextUptoRow, standIns := [], harness := (true, "e719625e60fb266ad019ca96d3db21a2b65ef0fb0f1ee13099a318514e3a4052"), looks := false }, kinds := [], alts := [], laidByText := true, laidKinds := [.data, .data, .data, .data, .pinned], laidTests := true, laidLooks := .later }
def CoverTextUptoCardSaid : Prop := Claim7.holds Tryz.pinned (.plain (OpenSpec.upto coverTextSpec)) coverTextUptoCard

/-- THE SECOND FORM's CARD OF 'swarflaw19.CoverParse'. -/
def coverParseUptoCard : Claim7 := { stood := { row := coverParseUptoRow, standIns := [], harness := (true, "e719625e60fb266ad019ca96d3db21a2b65ef0fb0f1ee13099a318514e3a4052"), looks := false }, kinds := [], alts := [], laidByText := true, laidKinds := [.data, .data, .data, .data, .pinned], laidTests := true, laidLooks := .later }
def CoverParseUptoCardSaid : Prop := Claim7.holds Tryz.pinned (.plain (OpenSpec.upto coverParseSpec)) coverParseUptoCard
end Rows
end Go.Proofs.YtkkodaemmgpgfaaGreatDoor
