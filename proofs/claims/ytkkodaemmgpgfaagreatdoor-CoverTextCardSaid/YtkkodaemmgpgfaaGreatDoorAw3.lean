/- Closed runs, printed by a program (gather); each by the kernel. -/
import Derived.Test.YtkkodaemmgpgfaaGreatDoorAwDat
section
namespace Eng.Aw
open Go Go.Proofs
set_option maxRecDepth 1000000
theorem g195 : G e195 := r n (by kernel_rfl)
theorem g200 : G e200 := r n (by kernel_rfl)
end Eng.Aw
end
