/- Closed runs, printed by a program (gather); each by the kernel. -/
import Derived.Test.YtkkodaemmgpgfaaGreatDoorAwDat
section
namespace Eng.Aw
open Go Go.Proofs
set_option maxRecDepth 1000000
theorem g204 : Gives K3 379 a204 r204 := run1 (es := []) trivial (by kernel_rfl)
theorem g206 : Gives K3 124 a206 r206 := run1 (es := []) trivial (by kernel_rfl)
theorem g208 : Gives K3 124 a208 r208 := run1 (es := []) trivial (by kernel_rfl)
theorem g222 : Gives K3 300 a222 r222 := run1 (es := []) trivial (by kernel_rfl)
theorem g226 : Gives K3 296 a226 r226 := run1 (es := []) trivial (by kernel_rfl)
end Eng.Aw
end
