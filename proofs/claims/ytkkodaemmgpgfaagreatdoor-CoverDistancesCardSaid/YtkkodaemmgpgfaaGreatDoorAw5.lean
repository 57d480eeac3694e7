/- Closed runs, printed by a program (gather); each by the kernel. -/
import Derived.Test.YtkkodaemmgpgfaaGreatDoorAwDat
section
namespace Eng.Aw
open Go Go.Proofs
set_option maxRecDepth 1000000
theorem g229 : Gives K3 379 a229 r229 := run1 (es := []) trivial (by kernel_rfl)
theorem g232 : Gives K3 124 a232 r232 := run1 (es := []) trivial (by kernel_rfl)
theorem g240 : Gives K3 300 a240 r240 := run1 (es := []) trivial (by kernel_rfl)
theorem g243 : Gives K3 296 a243 r243 := run1 (es := []) trivial (by kernel_rfl)
end Eng.Aw
end
