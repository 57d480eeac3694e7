/- Closed runs, printed by a program (gather); each by the kernel. -/
import Derived.Test.YtkkodaemmgpgfaaGreatDoorAwDat
section
namespace Eng.Aw
open Go Go.Proofs
set_option maxRecDepth 1000000
theorem g266 : G e266 := r n (by kernel_rfl)
theorem g274 : G e274 := r n (by kernel_rfl)
end Eng.Aw
end
