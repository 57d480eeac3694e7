/- Closed runs, printed by a program (gather); each by the kernel. -/
import Derived.Test.YtlgnobmngljmaaaGreatDoorTkDat
import Derived.Test.YtlgnobmngljmaaaGreatDoorTk1
import Derived.Test.YtlgnobmngljmaaaGreatDoorTk2
import Derived.Test.YtlgnobmngljmaaaGreatDoorTk4
import Derived.Test.YtlgnobmngljmaaaGreatDoorTk5
import Derived.Test.YtlgnobmngljmaaaGreatDoorTk6
section
namespace Eng.Tk
open Go Go.Proofs
set_option maxRecDepth 1000000
variable [Env] [TokOk]
theorem g307 : G e307 := r (c g175 (c g177 (c g219 (c g266 (c g306 n))))) (by kernel_rfl)
theorem g334 : G e334 := r (c g245 (c g260 (c g280 (c g333 n)))) (by kernel_rfl)
theorem g360 : G e360 := r (c g175 (c g177 (c g219 (c g276 (c g306 n))))) (by kernel_rfl)
theorem g424 : G e424 := r (c g242 (c g280 (c g284 (c g333 n)))) (by kernel_rfl)
theorem g469 : G e469 := r (c g195 (c g220 (c g238 (c g267 (c g269 (c g271 (c g273 (c g277 (c g279 (c g281 (c g283 (c g285 (c g295 n))))))))))))) (by kernel_rfl)
theorem g483 : G e483 := r (c g174 (c g185 (c g188 (c g193 (c g194 (c g232 (c g236 (c g255 (c g260 (c g261 (c g280 (c g476 (c g479 n))))))))))))) (by kernel_rfl)
theorem g498 : G e498 := r (c g185 (c g188 (c g195 (c g205 (c g220 (c g236 (c g238 (c g256 (c g261 (c g267 (c g269 (c g271 (c g273 (c g277 (c g279 (c g281 (c g283 (c g285 n)))))))))))))))))) (by kernel_rfl)
theorem g510 : G e510 := r (c g245 (c g260 (c g280 (c g509 n)))) (by kernel_rfl)
theorem g523 : G e523 := r (c g175 (c g177 (c g219 (c g266 (c g522 n))))) (by kernel_rfl)
theorem g535 : G e535 := r (c g242 (c g280 (c g284 (c g509 n)))) (by kernel_rfl)
theorem g560 : G e560 := r (c g175 (c g177 (c g219 (c g276 (c g522 n))))) (by kernel_rfl)
theorem g610 : G e610 := r (c g261 (c g267 (c g277 (c g285 n)))) (by kernel_rfl)
theorem g620 : G e620 := r (c g261 (c g267 (c g277 (c g285 n)))) (by kernel_rfl)
end Eng.Tk
end
