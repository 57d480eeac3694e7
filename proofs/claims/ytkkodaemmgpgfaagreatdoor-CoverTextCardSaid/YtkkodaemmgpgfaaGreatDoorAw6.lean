/- Closed runs, printed by a program (gather); each by the kernel. -/
import Derived.Test.YtkkodaemmgpgfaaGreatDoorAwDat
section
namespace Eng.Aw
open Go Go.Proofs
set_option maxRecDepth 1000000
theorem g260 : G e260 := r n (by kernel_rfl)
theorem g263 : G e263 := r n (by kernel_rfl)
end Eng.Aw
end
