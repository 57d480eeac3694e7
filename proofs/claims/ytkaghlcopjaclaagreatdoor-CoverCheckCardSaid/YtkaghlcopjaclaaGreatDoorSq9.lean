import Derived.Test.YtkaghlcopjaclaaGreatDoorSqDat
import Derived.Test.YtkaghlcopjaclaaGreatDoorSq1
import Derived.Test.YtkaghlcopjaclaaGreatDoorSq2
import Derived.Test.YtkaghlcopjaclaaGreatDoorSq3
import Derived.Test.YtkaghlcopjaclaaGreatDoorSq4
import Derived.Test.YtkaghlcopjaclaaGreatDoorSq5
import Derived.Test.YtkaghlcopjaclaaGreatDoorSq6
import Derived.Test.YtkaghlcopjaclaaGreatDoorSq7
import Derived.Test.YtkaghlcopjaclaaGreatDoorSq8
section
namespace Eng.Sq
open Go Go.Proofs
set_option maxRecDepth 1000000
theorem g301:G e301:=r (c g10 (c Ss (c Sj (c aj (c oQ (c r8 (c oT (c r9 (c iF (c oU (c rN (c rP (c g296 n))))))))))))) (by kernel_rfl)
theorem g303:G e303:=r (c iH (c oX (c Sj (c nW (c oZ (c rF (c rK (c rP n)))))))) (by kernel_rfl)
theorem g329:G e329:=r (c g40 (c g43 (c g48 (c g49 (c g84 (c g88 (c oV (c Sj (c g328 n))))))))) (by kernel_rfl)
theorem g304:G e304:=r (c g49 (c g67 (c g73 (c g84 (c g88 (c oV (c Ss (c Sj (c oN (c iE (c oO (c aj (c g163 (c g168 (c oQ (c oR (c oS (c g200 (c g202 (c g217 (c iF (c g237 (c g240 (c oU (c g248 (c g256 (c g264 (c g278 (c g280 (c g287 (c g294 (c g301 (c g303 n))))))))))))))))))))))))))))))))) (by kernel_rfl)
end Eng.Sq
end
