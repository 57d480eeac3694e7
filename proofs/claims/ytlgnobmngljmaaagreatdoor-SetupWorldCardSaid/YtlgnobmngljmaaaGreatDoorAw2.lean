/- Closed runs, printed by a program (gather); each by the kernel. -/
import Derived.Test.YtlgnobmngljmaaaGreatDoorAwDat
import Derived.Test.YtlgnobmngljmaaaGreatDoorAw1
section
namespace Eng.Aw
open Go Go.Proofs
set_option maxRecDepth 1000000
variable [Env]
theorem g190 : G e190 := r n (by kernel_rfl)
theorem g212 : G e212 := r n (by kernel_rfl)
theorem g215 : G e215 := r n (by kernel_rfl)
theorem g218 : G e218 := r n (by kernel_rfl)
theorem g222 : G e222 := r n (by kernel_rfl)
theorem g226 : G e226 := r n (by kernel_rfl)
theorem g235 : G e235 := r n (by kernel_rfl)
theorem g238 : G e238 := r n (by kernel_rfl)
theorem g245 : G e245 := r n (by kernel_rfl)
theorem g259 : G e259 := r n (by kernel_rfl)
theorem g261 : G e261 := r n (by kernel_rfl)
theorem g262 : G e262 := r n (by kernel_rfl)
theorem g297 : G e297 := r n (by kernel_rfl)
theorem g298 : G e298 := r n (by kernel_rfl)
theorem g299 : G e299 := r n (by kernel_rfl)
theorem g317 : G e317 := r n (by kernel_rfl)
theorem g96 : G e96 := r (c g21 (c g36 (c g47 (c g61 (c g75 (c g90 n)))))) (by kernel_rfl)
end Eng.Aw
end
