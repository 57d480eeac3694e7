/-
  No cell of these rows narrows 'for every input' (looked for: loops, veiled, ifaces, maps, wideKeys, modest, calm, conditions, laid).
  DERIVED. THE GIVEN ROWS OF THIS SEAT. 3 by the template 'for every input the law returns true; each argument reads behind the call as it read before'; 0 by the template 'total and deterministic' (their statements: YtfipmjpmflmbbaaGreatTotals.lean).
  GIVEN WITH THE SEED: the statements are not yours to turn. If you find one false, say at which input.
  Laid BY PROGRAM, IN A SANDBOX (cutbox-rows.mjs): the forced cells as the released guide's own fill.sh prints them over the translation 72e3a94f2da40f33… (all of the seat's roots in one cut). By AI agents, Wed Nov 11 2026. No macro, syntax, notation, axiom, sorry.
-/
import Derived.Test.YtfipmjpmflmbbaaGreatChecked
import GoSem.Claim
import GoSem.ClaimJoined
import GoSem.ClaimMapViews
import Derived.JoinedTies
import Derived.KernelRfl
namespace Go.Proofs.YtfipmjpmflmbbaaGreat
/- THE CELL 'sum', in the pinned program and in every row, IS THE sha256 OF THE DUMP (.gsa) THAT YtfipmjpmflmbbaaGreatProg.lean LOADS. Nothing in Lean hashes anything: it is a label: what it is worth is what the hold of that sum in a sandbox is worth. -/
noncomputable def Tryz.pinned : Pinned := { name := "ytfipmjpmflmbbaagreat", sum := "72e3a94f2da40f3306c66d397025541e62ec8dede1e4f9fe9556509cda74b3d7", checked := Tryz.checked }
namespace Rows
def none {H : Type} : Left H := { results := [], args := [] }

/-- 'swarflaw25.PartLevels': WHATEVER THE INPUT: true; the input reads as it did. -/
def partLevelsSpec : ChangeSpec := { name := "partLevels", fn := fun _ => fun
  | [d1, d2] => { results := [.lit (.bool true)], args := [d1, d2] }
  | _ => none }
def partLevelsRow : OpenClaim := { program := "ytfipmjpmflmbbaagreat", sum := "72e3a94f2da40f3306c66d397025541e62ec8dede1e4f9fe9556509cda74b3d7", func := "swarf/swarflaw25.PartLevels", spec := "partLevels", unfollowed := true, recurses := true, apart := false }
def PartLevelsSaid : Prop := partLevelsRow.holds Tryz.pinned (OpenSpec.ofChange partLevelsSpec)

/-- ITS FALSE NEIGHBOUR: 'it returns false'. Refute it at one input. -/
def partLevelsWrong : ChangeSpec := { name := "partLevels", fn := fun _ => fun
  | [d1, d2] => { results := [.lit (.bool false)], args := [d1, d2] }
  | _ => none }
def PartLevelsWrongFalsely : Prop := partLevelsRow.holds Tryz.pinned (OpenSpec.ofChange partLevelsWrong)

/-- 'swarflaw25.PartEqual': WHATEVER THE INPUT: true; the input reads as it did. -/
def partEqualSpec : ChangeSpec := { name := "partEqual", fn := fun _ => fun
  | [d1, d2, d3] => { results := [.lit (.bool true)], args := [d1, d2, d3] }
  | _ => none }
def partEqualRow : OpenClaim := { program := "ytfipmjpmflmbbaagreat", sum := "72e3a94f2da40f3306c66d397025541e62ec8dede1e4f9fe9556509cda74b3d7", func := "swarf/swarflaw25.PartEqual", spec := "partEqual", unfollowed := true, recurses := true, apart := false }
def PartEqualSaid : Prop := partEqualRow.holds Tryz.pinned (OpenSpec.ofChange partEqualSpec)

/-- ITS FALSE NEIGHBOUR: 'it returns false'. Refute it at one input. -/
def partEqualWrong : ChangeSpec := { name := "partEqual", fn := fun _ => fun
  | [d1, d2, d3] => { results := [.lit (.bool false)], args := [d1, d2, d3] }
  | _ => none }
def PartEqualWrongFalsely : Prop := partEqualRow.holds Tryz.pinned (OpenSpec.ofChange partEqualWrong)

/-- 'swarflaw25.PartDepth': WHATEVER THE INPUT: true; the input reads as it did. -/
def partDepthSpec : ChangeSpec := { name := "partDepth", fn := fun _ => fun
  | [d1, d2, d3] => { results := [.lit (.bool true)], args := [d1, d2, d3] }
  | _ => none }
def partDepthRow : OpenClaim := { program := "ytfipmjpmflmbbaagreat", sum := "72e3a94f2da40f3306c66d397025541e62ec8dede1e4f9fe9556509cda74b3d7", func := "swarf/swarflaw25.PartDepth", spec := "partDepth", unfollowed := true, recurses := true, apart := false }
def PartDepthSaid : Prop := partDepthRow.holds Tryz.pinned (OpenSpec.ofChange partDepthSpec)

/-- ITS FALSE NEIGHBOUR: 'it returns false'. Refute it at one input. -/
def partDepthWrong : ChangeSpec := { name := "partDepth", fn := fun _ => fun
  | [d1, d2, d3] => { results := [.lit (.bool false)], args := [d1, d2, d3] }
  | _ => none }
def PartDepthWrongFalsely : Prop := partDepthRow.holds Tryz.pinned (OpenSpec.ofChange partDepthWrong)

/- THE SECOND FORM. 'bulk': how many values and letters a reading holds, each counted each time it is reached (what is shared counts as often as it is met; a slice's spare places count too). A statement '..UptoSaid' is the law's where the arguments, and the package variables that the reading takes, are together of bulk at most 1048576: NARROWER than '..Said'. Prove '..Said' where nothing that the law and all that it calls make is longer than what came in: it says more and counts as full. Else prove '..UptoSaid'. A law counts once. -/
mutual
def uptoBulk {H : Type} : DataW H → Nat
  | .lit (.string bytes) => bytes.length + 1
  | .lit _ => 1
  | .nil => 1
  | .ptr d => uptoBulk d + 1
  | .slice elems spare => uptoBulkAll elems + uptoBulkAll spare + 1
  | .agg parts => uptoBulkAll parts + 1
  | .iface _ d => uptoBulk d + 1
  | .map entries => uptoBulkEntries entries + 1
  | .held _ => 1
def uptoBulkAll {H : Type} : List (DataW H) → Nat
  | [] => 0
  | d :: r => uptoBulk d + uptoBulkAll r
def uptoBulkEntries {H : Type} : List (Lit × DataW H) → Nat
  | [] => 0
  | x :: r => uptoBulkEntry x + uptoBulkEntries r
def uptoBulkEntry {H : Type} : Lit × DataW H → Nat
  | (.string bytes, d) => bytes.length + uptoBulk d + 1
  | (_, d) => uptoBulk d + 1
 end
def uptoSmall : (H : Type) → List (DataW H) → Bool := fun _ ds => decide (uptoBulkAll ds ≤ 1048576)
def OpenSpec.upto (s : _root_.Go.ChangeSpec) : _root_.Go.OpenSpec := { _root_.Go.OpenSpec.ofChange s with cond := some uptoSmall }

/-- 'swarflaw25.PartLevels', WHERE WHAT IT READS IS OF BULK AT MOST 1048576: true; the input reads as it did. -/
def partLevelsUptoRow : OpenClaim := { program := "ytfipmjpmflmbbaagreat", sum := "72e3a94f2da40f3306c66d397025541e62ec8dede1e4f9fe9556509cda74b3d7", func := "swarf/swarflaw25.PartLevels", spec := "partLevels", unfollowed := true, recurses := true, apart := false, narrowed := true }
def PartLevelsUptoSaid : Prop := partLevelsUptoRow.holds Tryz.pinned (OpenSpec.upto partLevelsSpec)

/-- 'swarflaw25.PartEqual', WHERE WHAT IT READS IS OF BULK AT MOST 1048576: true; the input reads as it did. -/
def partEqualUptoRow : OpenClaim := { program := "ytfipmjpmflmbbaagreat", sum := "72e3a94f2da40f3306c66d397025541e62ec8dede1e4f9fe9556509cda74b3d7", func := "swarf/swarflaw25.PartEqual", spec := "partEqual", unfollowed := true, recurses := true, apart := false, narrowed := true }
def PartEqualUptoSaid : Prop := partEqualUptoRow.holds Tryz.pinned (OpenSpec.upto partEqualSpec)

/-- 'swarflaw25.PartDepth', WHERE WHAT IT READS IS OF BULK AT MOST 1048576: true; the input reads as it did. -/
def partDepthUptoRow : OpenClaim := { program := "ytfipmjpmflmbbaagreat", sum := "72e3a94f2da40f3306c66d397025541e62ec8dede1e4f9fe9556509cda74b3d7", func := "swarf/swarflaw25.PartDepth", spec := "partDepth", unfollowed := true, recurses := true, apart := false, narrowed := true }
def PartDepthUptoSaid : Prop := partDepthUptoRow.holds Tryz.pinned (OpenSpec.upto partDepthSpec)

end Rows
end Go.Proofs.YtfipmjpmflmbbaaGreat
