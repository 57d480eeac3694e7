/- Closed runs, printed by a program (gather); each by the kernel. -/
import Derived.Test.YtkkodaemmgpgfaaGreatDoorAwDat
section
namespace Eng.Aw
open Go Go.Proofs
set_option maxRecDepth 1000000
theorem g172 : G e172 := r n (by kernel_rfl)
theorem g176 : G e176 := r n (by kernel_rfl)
theorem g190 : G e190 := r n (by kernel_rfl)
end Eng.Aw
end
