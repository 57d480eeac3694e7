import Derived.Test.YtkaghlcopjaclaaGreatDoorSqDat
import Derived.Test.YtkaghlcopjaclaaGreatDoorSq1
import Derived.Test.YtkaghlcopjaclaaGreatDoorSq2
import Derived.Test.YtkaghlcopjaclaaGreatDoorSq3
import Derived.Test.YtkaghlcopjaclaaGreatDoorSq4
import Derived.Test.YtkaghlcopjaclaaGreatDoorSq5
import Derived.Test.YtkaghlcopjaclaaGreatDoorSq6
section
namespace Eng.Sq
open Go Go.Proofs
set_option maxRecDepth 1000000
theorem g264:G e264:=r (c g5 (c g73 (c Ss (c iE (c r9 (c iF (c rL (c rM n)))))))) (by kernel_rfl)
theorem g278:G e278:=r (c g10 (c Ss (c Sj (c aj (c rx (c ry (c oQ (c iF (c oU (c g266 (c rN (c rP n)))))))))))) (by kernel_rfl)
theorem g280:G e280:=r (c nU (c oW (c Ss (c nW (c oZ (c rG (c rM (c rN n)))))))) (by kernel_rfl)
theorem g287:G e287:=r (c g1 (c g49 (c Sj (c aj (c ry (c oR (c oS (c rJ (c rK n))))))))) (by kernel_rfl)
end Eng.Sq
end
