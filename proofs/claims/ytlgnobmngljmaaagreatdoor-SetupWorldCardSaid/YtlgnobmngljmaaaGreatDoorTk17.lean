/- Closed runs, printed by a program (gather); each by the kernel. -/
import Derived.Test.YtlgnobmngljmaaaGreatDoorTkDat
import Derived.Test.YtlgnobmngljmaaaGreatDoorTk1
import Derived.Test.YtlgnobmngljmaaaGreatDoorTk2
import Derived.Test.YtlgnobmngljmaaaGreatDoorTk4
import Derived.Test.YtlgnobmngljmaaaGreatDoorTk16
import Derived.Test.YtlgnobmngljmaaaGreatDoorCtF
section
namespace Eng.Tk
open Go Go.Proofs
set_option maxRecDepth 1000000
variable [Env] [TokOk] [BdOk]
theorem g1452 : G e1452 := r2 (c g51 (c g57 (c g66 (c g82 (c g91 (c g120 (c g134 (c g1411 n)))))))) (by kernel_rfl)
theorem g1417 : G e1417 := r2 (c g57 (c g87 (c g119 (c g133 (c g1416 n))))) (by kernel_rfl)
end Eng.Tk
end
