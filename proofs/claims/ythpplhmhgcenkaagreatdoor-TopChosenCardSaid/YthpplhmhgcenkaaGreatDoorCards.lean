/-
  DERIVED. GIVEN WITH THE SEED: THE CARDS: each row of YthpplhmhgcenkaaGreatDoorRows.lean that lists a variable, with what it lists TIED to the program's text (the seventh form; the later family's looks); each row that meets fmt, with fmt's text TOLD by the authors' own Lean function (tested against real Go, not proved from fmt's source: count such statements apart). THE CARD IS WHAT COUNTS. Prove the row's statement (the work); the ties are given (YthpplhmhgcenkaaGreatDoorTie.lean); close each card by the builder's one call (the guide's Derived/Test/ToyasCard.lean, 'card_holds'). Laid BY PROGRAM, IN A SANDBOX (cutbox-door.mjs). By AI agents, Wed Nov 11 2026. No macro, syntax, notation, axiom, sorry.
-/
import Derived.Test.YthpplhmhgcenkaaGreatDoorRows
import GoSem.ClaimSeven
namespace Go.Proofs.YthpplhmhgcenkaaGreatDoor
namespace Rows

/-- THE TIED CARD OF 'swarftop.TopChosen'. -/
def topChosenCard : Claim7 := { stood := { row := topChosenRow, standIns := [], harness := (true, "93bd86df7ba2a33eaaaf70a6a34b845193f183451681a6a89ec020d0248296af"), looks := false }, kinds := [], alts := [], laidByText := true, laidKinds := [.mapped], laidTests := true, laidLooks := .later }
def TopChosenCardSaid : Prop := Claim7.holds Tryz.pinned (.plain (OpenSpec.ofChange topChosenSpec)) topChosenCard

/-- THE SECOND FORM's CARD OF 'swarftop.TopChosen'. -/
def topChosenUptoCard : Claim7 := { stood := { row := topChosenUptoRow, standIns := [], harness := (true, "93bd86df7ba2a33eaaaf70a6a34b845193f183451681a6a89ec020d0248296af"), looks := false }, kinds := [], alts := [], laidByText := true, laidKinds := [.mapped], laidTests := true, laidLooks := .later }
def TopChosenUptoCardSaid : Prop := Claim7.holds Tryz.pinned (.plain (OpenSpec.upto topChosenSpec)) topChosenUptoCard
end Rows
end Go.Proofs.YthpplhmhgcenkaaGreatDoor
