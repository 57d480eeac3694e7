/- Closed runs, printed by a program (gather); each by the kernel. -/
import Derived.Test.YtlgnobmngljmaaaGreatDoorTkDat
import Derived.Test.YtlgnobmngljmaaaGreatDoorTk1
import Derived.Test.YtlgnobmngljmaaaGreatDoorTk2
import Derived.Test.YtlgnobmngljmaaaGreatDoorTk4
import Derived.Test.YtlgnobmngljmaaaGreatDoorCtF
section
namespace Eng.Tk
open Go Go.Proofs
set_option maxRecDepth 1000000
variable [Env] [TokOk] [BdOk]
theorem g1408 : G e1408 := r2 n (by kernel_rfl)
theorem g1419 : G e1419 := r2 n (by kernel_rfl)
theorem g1454 : G e1454 := r2 n (by kernel_rfl)
theorem g1430 : G e1430 := r2 (c g4 (c g23 (c g31 (c g46 (c g1419 n))))) (by kernel_rfl)
theorem g1411 : G e1411 := r2 (c g87 n) (by kernel_rfl)
theorem g1416 : G e1416 := r2 (c g43 (c g76 (c g80 (c g103 (c g118 (c g122 (c g149 (c g1408 (c g1411 n))))))))) (by kernel_rfl)
end Eng.Tk
end
