/- Closed runs, printed by a program (gather); each by the kernel. -/
import Derived.Test.YtkkodaemmgpgfaaGreatDoorAwDat
section
namespace Eng.Aw
open Go Go.Proofs
set_option maxRecDepth 1000000
theorem g236 : G e236 := r n (by kernel_rfl)
theorem g240 : G e240 := r n (by kernel_rfl)
theorem g243 : G e243 := r n (by kernel_rfl)
end Eng.Aw
end
