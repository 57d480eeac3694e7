/- Closed runs, printed by a program (gather); each by the kernel. -/
import Derived.Test.YtkkodaemmgpgfaaGreatDoorAwDat
section
namespace Eng.Aw
open Go Go.Proofs
set_option maxRecDepth 1000000
theorem g247 : Gives K3 379 a247 r247 := run1 (es := []) trivial (by kernel_rfl)
theorem g260 : Gives K3 300 a260 r260 := run1 (es := []) trivial (by kernel_rfl)
theorem g263 : Gives K3 296 a263 r263 := run1 (es := []) trivial (by kernel_rfl)
end Eng.Aw
end
