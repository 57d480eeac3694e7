/- Closed runs, printed by a program (gather); each by the kernel. -/
import Derived.Test.YtkkodaemmgpgfaaGreatDoorAwDat
section
namespace Eng.Aw
open Go Go.Proofs
set_option maxRecDepth 1000000
theorem g11 : G e11 := r n (by kernel_rfl)
theorem g12 : G e12 := r n (by kernel_rfl)
theorem g19 : G e19 := r n (by kernel_rfl)
theorem g24 : G e24 := r n (by kernel_rfl)
theorem g32 : G e32 := r n (by kernel_rfl)
theorem g34 : G e34 := r n (by kernel_rfl)
theorem g46 : G e46 := r n (by kernel_rfl)
theorem g50 : G e50 := r n (by kernel_rfl)
theorem g62 : G e62 := r n (by kernel_rfl)
theorem g68 : G e68 := r n (by kernel_rfl)
theorem g89 : G e89 := r n (by kernel_rfl)
theorem g108 : G e108 := r n (by kernel_rfl)
theorem g158 : G e158 := r n (by kernel_rfl)
end Eng.Aw
end
