/- Closed runs, printed by a program (gather); each by the kernel. -/
import Derived.Test.YtlgnobmngljmaaaGreatDoorAwDat
section
namespace Eng.Aw
open Go Go.Proofs
set_option maxRecDepth 1000000
variable [Env]
theorem g21 : G e21 := r n (by kernel_rfl)
theorem g36 : G e36 := r n (by kernel_rfl)
theorem g47 : G e47 := r n (by kernel_rfl)
theorem g61 : G e61 := r n (by kernel_rfl)
theorem g75 : G e75 := r n (by kernel_rfl)
theorem g90 : G e90 := r n (by kernel_rfl)
theorem g111 : G e111 := r n (by kernel_rfl)
theorem g134 : G e134 := r n (by kernel_rfl)
theorem g151 : G e151 := r n (by kernel_rfl)
theorem g169 : G e169 := r n (by kernel_rfl)
theorem g171 : G e171 := r n (by kernel_rfl)
theorem g179 : G e179 := r n (by kernel_rfl)
end Eng.Aw
end
