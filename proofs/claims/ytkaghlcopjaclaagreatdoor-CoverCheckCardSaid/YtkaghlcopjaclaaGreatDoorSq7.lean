import Derived.Test.YtkaghlcopjaclaaGreatDoorSqDat
import Derived.Test.YtkaghlcopjaclaaGreatDoorSq1
import Derived.Test.YtkaghlcopjaclaaGreatDoorSq2
import Derived.Test.YtkaghlcopjaclaaGreatDoorSq3
import Derived.Test.YtkaghlcopjaclaaGreatDoorSq4
import Derived.Test.YtkaghlcopjaclaaGreatDoorSq5
section
namespace Eng.Sq
open Go Go.Proofs
set_option maxRecDepth 1000000
theorem g202:G e202:=r (c g49 (c iH (c oX (c nV (c oY (c rC (c rH (c rJ n)))))))) (by kernel_rfl)
theorem g217:G e217:=r (c g2 (c g49 (c g73 (c oN (c iE (c oO (c aj (c rH (c rI (c r8 (c oT (c r9 n)))))))))))) (by kernel_rfl)
theorem g237:G e237:=r (c g5 (c g73 (c Ss (c iE (c rx (c g220 (c iF (c rL (c rM n))))))))) (by kernel_rfl)
theorem g248:G e248:=r (c g73 (c nV (c oY (c nU (c oW (c rD (c rI (c rL n)))))))) (by kernel_rfl)
end Eng.Sq
end
