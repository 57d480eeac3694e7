import Derived.Test.YtkaghlcopjaclaaGreatDoorSqDat
import Derived.Test.YtkaghlcopjaclaaGreatDoorSq1
import Derived.Test.YtkaghlcopjaclaaGreatDoorSq2
import Derived.Test.YtkaghlcopjaclaaGreatDoorSq3
import Derived.Test.YtkaghlcopjaclaaGreatDoorSq4
import Derived.Test.YtkaghlcopjaclaaGreatDoorSq5
import Derived.Test.YtkaghlcopjaclaaGreatDoorSq6
import Derived.Test.YtkaghlcopjaclaaGreatDoorSq9
section
namespace Eng.Sq
open Go Go.Proofs
set_option maxRecDepth 1000000
theorem g330:G e330:=r (c g16 (c g18 (c g19 (c g22 (c g31 (c g33 (c g35 (c g38 (c g50 (c g63 (c g66 (c g74 (c g91 (c g94 (c oV (c g130 (c g304 (c g311 (c g312 (c g329 n)))))))))))))))))))) (by kernel_rfl)
theorem g332:G e332:=r (c g14 (c g330 n)) (by kernel_rfl)
end Eng.Sq
end
