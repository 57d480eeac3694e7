/- Closed runs, printed by a program (gather); each by the kernel. -/
import Derived.Test.YtkkodaemmgpgfaaGreatDoorAwDat
import Derived.Test.YtkkodaemmgpgfaaGreatDoorAw8
import Derived.Test.YtkkodaemmgpgfaaGreatDoorAw9
import Derived.Test.YtkkodaemmgpgfaaGreatDoorAw10
import Derived.Test.YtkkodaemmgpgfaaGreatDoorAw11
import Derived.Test.YtkkodaemmgpgfaaGreatDoorAw12
import Derived.Test.YtkkodaemmgpgfaaGreatDoorAw13
section
namespace Eng.Aw
open Go Go.Proofs
set_option maxRecDepth 1000000
theorem g369 : G e369 := r (c g71 (c g95 (c g111 (c g125 (c g150 (c g343 (c g350 (c g351 (c g368 n))))))))) (by kernel_rfl)
theorem g370 : G e370 := r (c g28 (c g369 n)) (by kernel_rfl)
theorem g608 : G e608 := r (c g294 (c g370 (c g548 (c g554 (c g607 n))))) (by kernel_rfl)
end Eng.Aw
end
