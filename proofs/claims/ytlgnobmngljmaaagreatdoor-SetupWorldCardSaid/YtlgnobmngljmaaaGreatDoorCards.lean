/-
  DERIVED. GIVEN WITH THE SEED: THE CARDS: each row of YtlgnobmngljmaaaGreatDoorRows.lean that lists a variable, with what it lists TIED to the program's text (the seventh form; the later family's looks); each row that meets fmt, with fmt's text TOLD by the authors' own Lean function (tested against real Go, not proved from fmt's source: count such statements apart). THE CARD IS WHAT COUNTS. Prove the row's statement (the work); the ties are given (YtlgnobmngljmaaaGreatDoorTie.lean); close each card by the builder's one call (the guide's Derived/Test/ToyasCard.lean, 'card_holds'). Laid BY PROGRAM, IN A SANDBOX (cutbox-door.mjs). By AI agents, Wed Nov 11 2026. No macro, syntax, notation, axiom, sorry.
-/
import Derived.Test.YtlgnobmngljmaaaGreatDoorRows
import GoSem.ClaimSeven
namespace Go.Proofs.YtlgnobmngljmaaaGreatDoor
namespace Rows

/-- THE TIED CARD OF 'swarflaw26.SetupWorld'. -/
def setupWorldCard : Claim7 := { stood := { row := setupWorldRow, standIns := [], harness := (true, "52fd40c608bde4bf98d30cab7e49ff79680bcf378ebc684fbc513f1ba1f15969"), looks := true }, kinds := [], alts := [], laidByText := true, laidKinds := [.data, .data, .data, .data, .sentinel, .sentinel, .pinned], laidTests := true, laidLooks := .later }
def SetupWorldCardSaid : Prop := Claim7.holds Tryz.pinned (.plain (OpenSpec.ofChange setupWorldSpec)) setupWorldCard

/-- THE SECOND FORM's CARD OF 'swarflaw26.SetupWorld'. -/
def setupWorldUptoCard : Claim7 := { stood := { row := setupWorldUptoRow, standIns := [], harness := (true, "52fd40c608bde4bf98d30cab7e49ff79680bcf378ebc684fbc513f1ba1f15969"), looks := true }, kinds := [], alts := [], laidByText := true, laidKinds := [.data, .data, .data, .data, .sentinel, .sentinel, .pinned], laidTests := true, laidLooks := .later }
def SetupWorldUptoCardSaid : Prop := Claim7.holds Tryz.pinned (.plain (OpenSpec.upto setupWorldSpec)) setupWorldUptoCard
end Rows
end Go.Proofs.YtlgnobmngljmaaaGreatDoor
