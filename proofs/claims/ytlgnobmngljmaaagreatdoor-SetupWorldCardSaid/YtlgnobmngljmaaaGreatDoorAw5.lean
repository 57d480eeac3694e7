/- Closed runs, printed by a program (gather); each by the kernel. -/
import Derived.Test.YtlgnobmngljmaaaGreatDoorAwDat
import Derived.Test.YtlgnobmngljmaaaGreatDoorAw1
import Derived.Test.YtlgnobmngljmaaaGreatDoorAw2
import Derived.Test.YtlgnobmngljmaaaGreatDoorAw3
import Derived.Test.YtlgnobmngljmaaaGreatDoorAw4
section
namespace Eng.Aw
open Go Go.Proofs
set_option maxRecDepth 1000000
variable [Env]
theorem g335 : G e335 := r (c g212 (c g218 (c g226 (c g233 (c g238 (c g298 (c g299 (c g306 (c g317 n))))))))) (by kernel_rfl)
theorem g336 : G e336 := r (c g212 (c g226 (c g235 (c g245 (c g257 (c g261 (c g262 (c g271 (c g293 (c g297 (c g298 (c g299 (c g306 (c g335 n)))))))))))))) (by kernel_rfl)
theorem g339 : G e339 := r (c g111 (c g164 (c g186 (c g190 (c g202 (c g257 (c g293 (c g336 n)))))))) (by kernel_rfl)
end Eng.Aw
end
