/-
  DERIVED. GIVEN WITH THE SEED: THE CARDS: each row of YtmfkgpfkpnmdnaaGreatDoorRows.lean that lists a variable, with what it lists TIED to the program's text (the seventh form; the later family's looks); each row that meets fmt, with fmt's text TOLD by the authors' own Lean function (tested against real Go, not proved from fmt's source: count such statements apart). THE CARD IS WHAT COUNTS. Prove the row's statement (the work); the ties are given (YtmfkgpfkpnmdnaaGreatDoorTie.lean); close each card by the builder's one call (the guide's Derived/Test/ToyasCard.lean, 'card_holds'). Laid BY PROGRAM, IN A SANDBOX (cutbox-door.mjs). By AI agents, Wed Nov 11 2026. No macro, syntax, notation, axiom, sorry.
-/
import Derived.Test.YtmfkgpfkpnmdnaaGreatDoorRows
import GoSem.ClaimSeven
namespace Go.Proofs.YtmfkgpfkpnmdnaaGreatDoor
namespace Rows

/-- THE TIED CARD OF 'swarftop.TopOrdered'. -/
def topOrderedCard : Claim7 := { stood := { row := topOrderedRow, standIns := [], harness := (true, "45055fd19406d6e0ebc4a43dca916dc579bdd2598db1a1855210551248a9ee1f"), looks := false }, kinds := [], alts := [], laidByText := true, laidKinds := [.mapped], laidTests := true, laidLooks := .later }
def TopOrderedCardSaid : Prop := Claim7.holds Tryz.pinned (.plain (OpenSpec.ofChange topOrderedSpec)) topOrderedCard

/-- THE SECOND FORM's CARD OF 'swarftop.TopOrdered'. -/
def topOrderedUptoCard : Claim7 := { stood := { row := topOrderedUptoRow, standIns := [], harness := (true, "45055fd19406d6e0ebc4a43dca916dc579bdd2598db1a1855210551248a9ee1f"), looks := false }, kinds := [], alts := [], laidByText := true, laidKinds := [.mapped], laidTests := true, laidLooks := .later }
def TopOrderedUptoCardSaid : Prop := Claim7.holds Tryz.pinned (.plain (OpenSpec.upto topOrderedSpec)) topOrderedUptoCard
end Rows
end Go.Proofs.YtmfkgpfkpnmdnaaGreatDoor
