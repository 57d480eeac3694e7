import Derived.Test.YtkaghlcopjaclaaGreatDoorSqDat
import Derived.Test.YtkaghlcopjaclaaGreatDoorSq1
import Derived.Test.YtkaghlcopjaclaaGreatDoorSq2
import Derived.Test.YtkaghlcopjaclaaGreatDoorSq3
import Derived.Test.YtkaghlcopjaclaaGreatDoorSq4
import Derived.Test.YtkaghlcopjaclaaGreatDoorSq5
section
namespace Eng.Sq
open Go Go.Proofs
set_option maxRecDepth 1000000
theorem rP:G e276:=r (c g94 (c Sj (c nW (c rF n)))) (by kernel_rfl)
theorem g312:G e312:=r (c g40 (c g43 (c g48 (c g50 (c g67 (c g70 (c g71 (c g72 (c g74 (c g84 (c g88 (c g90 (c oY (c oW (c Ss (c Sj (c oZ (c rt (c g296 n))))))))))))))))))) (by kernel_rfl)
theorem g328:G e328:=r (c g30 (c g40 (c g43 (c g48 (c g84 (c iG (c iH (c oX n)))))))) (by kernel_rfl)
theorem g163:G e163:=r (c g2 (c g49 (c g73 (c rt (c oN (c iE (c oO (c aj (c rx (c ry (c rH (c rI n)))))))))))) (by kernel_rfl)
theorem g200:G e200:=r (c g1 (c g49 (c Sj (c aj (c oR (c g178 (c oS (c r8 (c rJ (c rK n)))))))))) (by kernel_rfl)
end Eng.Sq
end
