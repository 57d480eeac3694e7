/- Closed runs, printed by a program (gather); each by the kernel. -/
import Derived.Test.YtlgnobmngljmaaaGreatDoorTkDat
import Derived.Test.YtlgnobmngljmaaaGreatDoorTk1
import Derived.Test.YtlgnobmngljmaaaGreatDoorTk2
import Derived.Test.YtlgnobmngljmaaaGreatDoorTk3
import Derived.Test.YtlgnobmngljmaaaGreatDoorTk4
import Derived.Test.YtlgnobmngljmaaaGreatDoorTk5
import Derived.Test.YtlgnobmngljmaaaGreatDoorTk6
import Derived.Test.YtlgnobmngljmaaaGreatDoorTk11
import Derived.Test.YtlgnobmngljmaaaGreatDoorTk12
import Derived.Test.YtlgnobmngljmaaaGreatDoorTk13
import Derived.Test.YtlgnobmngljmaaaGreatDoorTk19
import Derived.Test.YtlgnobmngljmaaaGreatDoorTk14
section
namespace Eng.Tk
open Go Go.Proofs
set_option maxRecDepth 1000000
variable [Env] [TokOk]
theorem g816 : G e816 := r (c g173 (c g535 (c g672 (c g674 n)))) (by kernel_rfl)
theorem g1236 : G e1236 := r (c g173 (c g424 (c g672 (c g674 n)))) (by kernel_rfl)
theorem g484 : G e484 := r (c g170 (c g171 (c g175 (c g177 (c g179 (c g182 (c g195 (c g197 (c g220 (c g222 (c g227 (c g230 (c g238 (c g242 (c g245 (c g256 (c g286 (c g461 (c g468 (c g469 (c g483 n))))))))))))))))))))) (by kernel_rfl)
theorem g597 : G e597 := r (c g170 (c g171 (c g174 (c g175 (c g177 (c g188 (c g195 (c g197 (c g220 (c g222 (c g227 (c g230 (c g232 (c g236 (c g238 (c g242 (c g245 (c g255 (c g260 (c g261 (c g267 (c g269 (c g271 (c g273 (c g277 (c g279 (c g281 (c g283 (c g285 (c g498 (c g517 (c g532 (c g579 (c g586 (c g588 (c g590 n)))))))))))))))))))))))))))))))))))) (by kernel_rfl)
theorem g485 : G e485 := r (c g169 (c g484 n)) (by kernel_rfl)
theorem g611 : G e611 := r (c g597 (c g610 n)) (by kernel_rfl)
end Eng.Tk
end
