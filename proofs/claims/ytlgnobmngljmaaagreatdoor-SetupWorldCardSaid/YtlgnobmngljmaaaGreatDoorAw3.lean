/- Closed runs, printed by a program (gather); each by the kernel. -/
import Derived.Test.YtlgnobmngljmaaaGreatDoorAwDat
import Derived.Test.YtlgnobmngljmaaaGreatDoorAw1
section
namespace Eng.Aw
open Go Go.Proofs
set_option maxRecDepth 1000000
variable [Env]
theorem g162 : G e162 := r (c g21 (c g36 (c g134 (c g151 n)))) (by kernel_rfl)
theorem g186 : G e186 := r (c g47 (c g61 (c g75 (c g90 (c g169 (c g171 (c g179 n))))))) (by kernel_rfl)
theorem g202 : G e202 := r (c g134 (c g151 (c g169 n))) (by kernel_rfl)
end Eng.Aw
end
