/- Closed runs, printed by a program (gather); each by the kernel. -/
import Derived.Test.YtkkodaemmgpgfaaGreatDoorAwDat
section
namespace Eng.Aw
open Go Go.Proofs
set_option maxRecDepth 1000000
theorem g212 : G e212 := r n (by kernel_rfl)
theorem g222 : G e222 := r n (by kernel_rfl)
theorem g226 : G e226 := r n (by kernel_rfl)
end Eng.Aw
end
