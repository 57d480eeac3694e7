/-
  DERIVED. GIVEN WITH THE SEED: THE CARDS: each row of YtkaghlcopjaclaaGreatDoorRows.lean that lists a variable, with what it lists TIED to the program's text (the seventh form; the later family's looks); each row that meets fmt, with fmt's text TOLD by the authors' own Lean function (tested against real Go, not proved from fmt's source: count such statements apart). THE CARD IS WHAT COUNTS. Prove the row's statement (the work); the ties are given (YtkaghlcopjaclaaGreatDoorTie.lean); close each card by the builder's one call (the guide's Derived/Test/ToyasCard.lean, 'card_holds'). Laid BY PROGRAM, IN A SANDBOX (cutbox-door.mjs). By AI agents, Wed Nov 11 2026. No macro, syntax, notation, axiom, sorry.
-/
import Derived.Test.YtkaghlcopjaclaaGreatDoorRows
import GoSem.ClaimSeven
namespace Go.Proofs.YtkaghlcopjaclaaGreatDoor
namespace Rows

/-- THE TIED CARD OF 'swarflaw19.CoverCheck'. -/
def coverCheckCard : Claim7 := { stood := { row := coverCheckRow, standIns := [], harness := (true, "253e1800a55db5c92b1938c9c6b10e3d24b6be78ccc7c0960579b1dd35c08bf3"), looks := false }, kinds := [], alts := [], laidByText := true, laidKinds := [.data, .data, .data], laidTests := true, laidLooks := .later }
def CoverCheckCardSaid : Prop := Claim7.holds Tryz.pinned (.plain (OpenSpec.ofChange coverCheckSpec)) coverCheckCard

/-- THE SECOND FORM's CARD OF 'swarflaw19.CoverCheck'. -/
def coverCheckUptoCard : Claim7 := { stood := { row := coverCheckUptoRow, standIns := [], harness := (true, "253e1800a55db5c92b1938c9c6b10e3d24b6be78ccc7c0960579b1dd35c08bf3"), looks := false }, kinds := [], alts := [], laidByText := true, laidKinds := [.data, .data, .data], laidTests := true, laidLooks := .later }
def CoverCheckUptoCardSaid : Prop := Claim7.holds Tryz.pinned (.plain (OpenSpec.upto coverCheckSpec)) coverCheckUptoCard
end Rows
end Go.Proofs.YtkaghlcopjaclaaGreatDoor
