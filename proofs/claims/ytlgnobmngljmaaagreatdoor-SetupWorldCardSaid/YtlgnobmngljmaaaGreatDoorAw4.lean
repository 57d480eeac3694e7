/- Closed runs, printed by a program (gather); each by the kernel. -/
import Derived.Test.YtlgnobmngljmaaaGreatDoorAwDat
import Derived.Test.YtlgnobmngljmaaaGreatDoorAw1
import Derived.Test.YtlgnobmngljmaaaGreatDoorAw2
import Derived.Test.YtlgnobmngljmaaaGreatDoorAw3
section
namespace Eng.Aw
open Go Go.Proofs
set_option maxRecDepth 1000000
variable [Env]
theorem g228 : G e228 := r (c g226 n) (by kernel_rfl)
theorem g164 : G e164 := r (c g21 (c g96 (c g111 (c g162 n)))) (by kernel_rfl)
theorem g233 : G e233 := r (c g212 (c g218 (c g228 n))) (by kernel_rfl)
theorem g271 : G e271 := r (c g212 (c g228 (c g261 (c g262 n)))) (by kernel_rfl)
theorem g306 : G e306 := r (c g212 (c g228 (c g298 (c g299 n)))) (by kernel_rfl)
theorem g257 : G e257 := r (c g212 (c g215 (c g218 (c g222 (c g226 (c g228 (c g233 (c g235 (c g238 (c g245 n)))))))))) (by kernel_rfl)
theorem g293 : G e293 := r (c g212 (c g222 (c g226 (c g228 (c g235 (c g245 (c g259 (c g261 (c g262 (c g271 n)))))))))) (by kernel_rfl)
end Eng.Aw
end
