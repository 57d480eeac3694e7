import Derived.Test.YtkaghlcopjaclaaGreatDoorSqDat
import Derived.Test.YtkaghlcopjaclaaGreatDoorSq1
import Derived.Test.YtkaghlcopjaclaaGreatDoorSq3
import Derived.Test.YtkaghlcopjaclaaGreatDoorSq4
section
namespace Eng.Sq
open Go Go.Proofs
set_option maxRecDepth 1000000
theorem g130:G e130:=r (c g40 (c g43 (c g48 (c g50 (c g67 (c g70 (c g71 (c g72 (c g74 (c g84 (c g88 (c g90 (c oV (c oX (c oY (c oW (c Ss (c Sj (c oZ n))))))))))))))))))) (by kernel_rfl)
theorem rH:G e158:=r (c g38 (c g49 (c nV (c rC n)))) (by kernel_rfl)
theorem rI:G e161:=r (c g63 (c g73 (c nV (c rD n)))) (by kernel_rfl)
theorem rJ:G e194:=r (c g35 (c g49 (c iH (c rC n)))) (by kernel_rfl)
theorem rK:G e198:=r (c g31 (c g33 (c iH (c Sj (c rF n))))) (by kernel_rfl)
theorem rL:G e231:=r (c g66 (c g73 (c nU (c rD n)))) (by kernel_rfl)
theorem rM:G e235:=r (c g79 (c nU (c Ss (c rG n)))) (by kernel_rfl)
theorem rN:G e273:=r (c g8 (c g31 (c g33 (c g59 (c g60 (c Ss (c nW (c rG n)))))))) (by kernel_rfl)
end Eng.Sq
end
