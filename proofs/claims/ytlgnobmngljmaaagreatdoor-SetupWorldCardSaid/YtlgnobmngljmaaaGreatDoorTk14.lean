/- Closed runs, printed by a program (gather); each by the kernel. -/
import Derived.Test.YtlgnobmngljmaaaGreatDoorTkDat
import Derived.Test.YtlgnobmngljmaaaGreatDoorTk1
import Derived.Test.YtlgnobmngljmaaaGreatDoorTk2
import Derived.Test.YtlgnobmngljmaaaGreatDoorTk3
import Derived.Test.YtlgnobmngljmaaaGreatDoorTk4
import Derived.Test.YtlgnobmngljmaaaGreatDoorTk5
import Derived.Test.YtlgnobmngljmaaaGreatDoorTk6
import Derived.Test.YtlgnobmngljmaaaGreatDoorTk12
section
namespace Eng.Tk
open Go Go.Proofs
set_option maxRecDepth 1000000
variable [Env] [TokOk]
theorem g579 : G e579 := r (c g194 (c g219 (c g260 (c g261 (c g266 (c g267 (c g276 (c g277 (c g278 (c g280 (c g284 (c g285 (c g300 (c g316 (c g327 (c g344 (c g357 (c g370 (c g380 (c g391 (c g395 (c g399 (c g404 (c g417 (c g434 (c g441 (c g445 (c g455 (c g506 (c g507 (c g509 (c g510 (c g517 (c g520 (c g522 (c g523 (c g532 (c g535 (c g537 (c g538 (c g558 (c g560 n)))))))))))))))))))))))))))))))))))))))))) (by kernel_rfl)
end Eng.Tk
end
