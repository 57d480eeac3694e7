/- Closed runs, printed by a program (gather); each by the kernel. -/
import Derived.Test.YtkkodaemmgpgfaaGreatDoorAwDat
section
namespace Eng.Aw
open Go Go.Proofs
set_option maxRecDepth 1000000
theorem g194 : Gives K3 379 a194 r194 := run1 (es := []) trivial (by kernel_rfl)
theorem g200 : Gives K3 296 a200 r200 := run1 (es := []) trivial (by kernel_rfl)
end Eng.Aw
end
