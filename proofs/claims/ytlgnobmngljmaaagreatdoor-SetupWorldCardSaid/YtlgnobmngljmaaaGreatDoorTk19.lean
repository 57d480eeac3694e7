/- Closed runs, printed by a program (gather); each by the kernel. -/
import Derived.Test.YtlgnobmngljmaaaGreatDoorTkDat
import Derived.Test.YtlgnobmngljmaaaGreatDoorTk1
import Derived.Test.YtlgnobmngljmaaaGreatDoorTk2
import Derived.Test.YtlgnobmngljmaaaGreatDoorTk3
import Derived.Test.YtlgnobmngljmaaaGreatDoorTk4
import Derived.Test.YtlgnobmngljmaaaGreatDoorTk5
import Derived.Test.YtlgnobmngljmaaaGreatDoorTk6
import Derived.Test.YtlgnobmngljmaaaGreatDoorTk8
import Derived.Test.YtlgnobmngljmaaaGreatDoorTk10
import Derived.Test.YtlgnobmngljmaaaGreatDoorTk12
section
namespace Eng.Tk
open Go Go.Proofs
set_option maxRecDepth 1000000
variable [Env] [TokOk]
theorem g461 : G e461 := r (c g194 (c g205 (c g219 (c g232 (c g236 (c g255 (c g260 (c g261 (c g266 (c g267 (c g276 (c g277 (c g278 (c g280 (c g284 (c g285 (c g295 (c g300 (c g302 (c g304 (c g306 (c g307 (c g316 (c g327 (c g330 (c g333 (c g334 (c g344 (c g357 (c g360 (c g362 (c g364 (c g370 (c g380 (c g391 (c g395 (c g399 (c g404 (c g409 (c g417 (c g421 (c g424 (c g434 (c g441 (c g445 (c g455 n)))))))))))))))))))))))))))))))))))))))))))))) (by kernel_rfl)
end Eng.Tk
end
