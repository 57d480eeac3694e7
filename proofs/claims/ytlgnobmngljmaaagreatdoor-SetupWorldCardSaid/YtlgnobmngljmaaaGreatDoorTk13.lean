/- Closed runs, printed by a program (gather); each by the kernel. -/
import Derived.Test.YtlgnobmngljmaaaGreatDoorTkDat
import Derived.Test.YtlgnobmngljmaaaGreatDoorTk1
import Derived.Test.YtlgnobmngljmaaaGreatDoorTk2
import Derived.Test.YtlgnobmngljmaaaGreatDoorTk3
import Derived.Test.YtlgnobmngljmaaaGreatDoorTk4
import Derived.Test.YtlgnobmngljmaaaGreatDoorTk5
import Derived.Test.YtlgnobmngljmaaaGreatDoorTk6
import Derived.Test.YtlgnobmngljmaaaGreatDoorTk8
import Derived.Test.YtlgnobmngljmaaaGreatDoorTk10
import Derived.Test.YtlgnobmngljmaaaGreatDoorTk12
section
namespace Eng.Tk
open Go Go.Proofs
set_option maxRecDepth 1000000
variable [Env] [TokOk]
theorem g784 : G e784 := r (c g507 n) (by kernel_rfl)
theorem g984 : G e984 := r (c g520 n) (by kernel_rfl)
theorem g1008 : G e1008 := r (c g1007 n) (by kernel_rfl)
theorem g1018 : G e1018 := r (c g173 (c g558 (c g672 (c g674 n)))) (by kernel_rfl)
theorem g1042 : G e1042 := r (c g185 (c g188 (c g193 (c g205 (c g208 (c g232 (c g588 (c g590 (c g656 (c g658 (c g1034 (c g1041 n)))))))))))) (by kernel_rfl)
theorem g1224 : G e1224 := r (c g330 n) (by kernel_rfl)
theorem g1317 : G e1317 := r (c g304 n) (by kernel_rfl)
theorem g1329 : G e1329 := r (c g1328 n) (by kernel_rfl)
theorem g1335 : G e1335 := r (c g173 (c g364 (c g672 (c g674 n)))) (by kernel_rfl)
end Eng.Tk
end
