/- Closed runs, printed by a program (gather); each by the kernel. -/
import Derived.Test.YtlgnobmngljmaaaGreatDoorTkDat
import Derived.Test.YtlgnobmngljmaaaGreatDoorTk2
import Derived.Test.YtlgnobmngljmaaaGreatDoorTk4
import Derived.Test.YtlgnobmngljmaaaGreatDoorTk16
import Derived.Test.YtlgnobmngljmaaaGreatDoorTk17
import Derived.Test.YtlgnobmngljmaaaGreatDoorCtF
section
namespace Eng.Tk
open Go Go.Proofs
set_option maxRecDepth 1000000
variable [Env] [TokOk] [BdOk]
theorem g1457 : G e1457 := r2 (c g76 (c g80 (c g103 (c g118 (c g122 (c g149 (c g1411 (c g1417 (c g1430 (c g1452 (c g1454 n))))))))))) (by kernel_rfl)
end Eng.Tk
end
