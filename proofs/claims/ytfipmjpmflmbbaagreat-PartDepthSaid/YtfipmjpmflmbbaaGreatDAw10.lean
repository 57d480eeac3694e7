/- Closed runs, printed by a program (gather); each by the kernel. -/
import Derived.Test.YtfipmjpmflmbbaaGreatDAwDat
import Derived.Test.YtfipmjpmflmbbaaGreatDAw2
import Derived.Test.YtfipmjpmflmbbaaGreatDAw5
import Derived.Test.YtfipmjpmflmbbaaGreatDAw6
import Derived.Test.YtfipmjpmflmbbaaGreatDAw4
import Derived.Test.YtfipmjpmflmbbaaGreatDAw11
section
namespace Eng.Aw
open Go Go.Proofs
set_option maxRecDepth 1000000
theorem g409:G e409:=r (c g19 (c g21 (c g22 (c rM n))))
theorem mK:G e430:=r (c g37 (c g43 (c g417 (c g424 n))))
theorem mL:G e442:=r (c g37 (c g43 (c g417 (c g424 n))))
theorem g455:G e455:=r (c g454 n)
theorem g464:G e464:=r (c g463 n)
theorem g473:G e473:=r (c g76 (c ep (c rN n)))
theorem fj:G e479:=r (c g76 (c fC (c fD n)))
theorem mM:G e484:=r (c ep (c rN (c nL n)))
theorem mN:G e490:=r (c fC (c fD (c nL n)))
theorem mO:G e530:=r (c fD (c nL n))
theorem mP:G e541:=r (c fD (c nL n))
theorem DC:G e605:=r (c Ry n)
theorem mQ:G e609:=r (c Ry (c pg n))
theorem oE:G e631:=r (c Ry n)
theorem mR:G e640:=r (c GD (c VT (c AQ n)))
theorem mS:G e667:=r (c Ry n)
theorem oF:G gP:=r (c Td (c fW (c fX (c AS (c To (c fY (c nI (c rl (c OJ (c fv n))))))))))
theorem g53:G e53:=r (c g44 (c g47 (c g52 n)))
theorem g86:G e86:=r (c g47 (c g74 (c g77 (c g78 (c g81 (c g85 n))))))
theorem oG:G e106:=r (c g74 (c DR (c fZ n)))
theorem mT:G e123:=r (c g44 (c DR (c ek (c pi (c oM (c rK n))))))
theorem eg:G e126:=r (c g44 (c ek (c oM n)))
theorem fk:G e132:=r (c g47 (c g77 (c g78 (c ek n))))
theorem fm:G e142:=r (c g74 (c g76 (c g77 (c g81 n))))
theorem R3:G e144:=r (c g52 (c g74 (c DR n)))
theorem R5:G e146:=r (c g44 (c g85 (c DR (c ek (c pi (c oM n))))))
theorem fo:G e150:=r (c g76 (c DR (c ek (c pi n))))
theorem eh:G e474:=r (c g473 n)
theorem mU:G e485:=r (c g76 (c ep (c mM n)))
theorem mV:G e492:=r (c mM (c mN n))
theorem mW:G e497:=r (c g76 (c fC (c mN n)))
theorem g533:G e533:=r (c g76 (c mO n))
theorem g549:G e549:=r (c g76 (c mP n))
theorem g626:G e626:=r (c Ry (c DC (c mQ (c g620 (c nM (c ae (c DE n)))))))
theorem g634:G e634:=r (c Ry (c DC (c g620 (c nM (c ae (c DE (c AR (c oE n))))))))
theorem g643:G e643:=r (c mR n)
theorem g662:G e662:=r (c Ry (c DC (c mQ (c nM (c ae (c DE (c g659 n)))))))
theorem g670:G e670:=r (c Ry (c DC (c nM (c ae (c DE (c g659 (c DF (c mS n))))))))
theorem g680:G e680:=r (c ei n)
theorem g745:G e745:=r (c Ry (c ae (c GD (c VT (c Td (c rF (c rG (c aa (c fW (c g726 (c AS (c g738 (c nD (c nE n))))))))))))))
theorem g765:G e765:=r (c VU (c eC (c Td (c rF (c rG (c fW (c g726 (c AS (c nD (c nE (c Te (c ej (c g758 (c eu n))))))))))))))
end Eng.Aw
end
