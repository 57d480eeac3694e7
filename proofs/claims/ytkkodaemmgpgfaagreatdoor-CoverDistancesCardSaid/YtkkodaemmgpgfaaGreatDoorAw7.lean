/- Closed runs, printed by a program (gather); each by the kernel. -/
import Derived.Test.YtkkodaemmgpgfaaGreatDoorAwDat
section
namespace Eng.Aw
open Go Go.Proofs
set_option maxRecDepth 1000000
theorem g265 : Gives K3 379 a265 r265 := run1 (es := []) trivial (by kernel_rfl)
theorem g266 : Gives K3 365 a266 r266 := run1 (es := []) trivial (by kernel_rfl)
theorem g269 : Gives K3 300 a269 r269 := run1 (es := []) trivial (by kernel_rfl)
theorem g274 : Gives K3 296 a274 r274 := run1 (es := []) trivial (by kernel_rfl)
end Eng.Aw
end
