/- slices.Delete[[]api.Box]: its walk. -/
import Derived.Test.YtkkodaemmgpgfaaGreatDoorCvC
import Derived.Shelf.Lays2
import Derived.Shelf.RegionOpenPlain
import Derived.WalkKit
import Derived.Deep.LoopGhost
import Derived.Deep.RegionLaw
import Derived.Lib.Walk
import Derived.Lib.SliceRun
section
namespace Eng
open Go Go.Proofs Go.RowKit Go.Lib Go.Shelf
set_option maxRecDepth 1000000
def boxZ : List Value := [.bool false, .slice none 0 0, .bool false, .slice none 0 0, .bool false, .slice none 0 0, .bool false, .slice none 0 0, .bool false, .slice none 0 0, .bool false, .slice none 0 0, .bool false, .slice none 0 0, .bool false, .slice none 0 0]
theorem zeros28 : zeros Tryz.prog 28 = some boxZ := by kernel_rfl
theorem und36 : Tryz.prog.underlying 36 = some (.slice 28) := by kernel_rfl
end Eng
end
