/- Closed runs, printed by a program (gather); each by the kernel. -/
import Derived.Test.YtfipmjpmflmbbaaGreatAwDat
import Derived.Test.YtfipmjpmflmbbaaGreatAw2
import Derived.Test.YtfipmjpmflmbbaaGreatAw5
import Derived.Test.YtfipmjpmflmbbaaGreatAw6
import Derived.Test.YtfipmjpmflmbbaaGreatAw4
import Derived.Test.YtfipmjpmflmbbaaGreatAw11
section
namespace Eng.Aw
open Go Go.Proofs
set_option maxRecDepth 1000000
theorem g409:G e409:=r (c g19 (c g21 (c g22 (c rR n))))
theorem mK:G e430:=r (c g37 (c g43 (c g417 (c g424 n))))
theorem mL:G e442:=r (c g37 (c g43 (c g417 (c g424 n))))
theorem g455:G e455:=r (c g454 n)
theorem g464:G e464:=r (c g463 n)
theorem g473:G e473:=r (c g76 (c eo (c rS n)))
theorem fc:G e479:=r (c g76 (c fv (c fw n)))
theorem mM:G e484:=r (c eo (c rS (c nL n)))
theorem mN:G e490:=r (c fv (c fw (c nL n)))
theorem mO:G e530:=r (c fw (c nL n))
theorem mP:G e541:=r (c fw (c nL n))
theorem Dx:G e605:=r (c Rq n)
theorem mQ:G e609:=r (c Rq (c pn n))
theorem oI:G e631:=r (c Rq n)
theorem mR:G e640:=r (c GB (c VP (c A7 n)))
theorem mS:G e667:=r (c Rq n)
theorem oJ:G gH:=r (c UY (c fO (c fP (c A9 (c Tj (c fQ (c nI (c rt (c O7 (c fl n))))))))))
theorem g53:G e53:=r (c g44 (c g47 (c g52 n)))
theorem g86:G e86:=r (c g47 (c g74 (c g77 (c g78 (c g81 (c g85 n))))))
theorem oK:G e106:=r (c g74 (c DC (c fT n)))
theorem mT:G e123:=r (c g44 (c DC (c ej (c pp (c oR (c rP n))))))
theorem ef:G e126:=r (c g44 (c ej (c oR n)))
theorem fe:G e132:=r (c g47 (c g77 (c g78 (c ej n))))
theorem ff:G e142:=r (c g74 (c g76 (c g77 (c g81 n))))
theorem Rw:G e144:=r (c g52 (c g74 (c DC n)))
theorem Rx:G e146:=r (c g44 (c g85 (c DC (c ej (c pp (c oR n))))))
theorem fh:G e150:=r (c g76 (c DC (c ej (c pp n))))
theorem eg:G e474:=r (c g473 n)
theorem mU:G e485:=r (c g76 (c eo (c mM n)))
theorem mV:G e492:=r (c mM (c mN n))
theorem mW:G e497:=r (c g76 (c fv (c mN n)))
theorem g533:G e533:=r (c g76 (c mO n))
theorem g549:G e549:=r (c g76 (c mP n))
theorem g626:G e626:=r (c Rq (c Dx (c mQ (c g620 (c nM (c IL (c Dz n)))))))
theorem g634:G e634:=r (c Rq (c Dx (c g620 (c nM (c IL (c Dz (c A8 (c oI n))))))))
theorem g643:G e643:=r (c mR n)
theorem g662:G e662:=r (c Rq (c Dx (c mQ (c nM (c IL (c Dz (c g659 n)))))))
theorem g670:G e670:=r (c Rq (c Dx (c nM (c IL (c Dz (c g659 (c D0 (c mS n))))))))
theorem g680:G e680:=r (c eh n)
theorem g745:G e745:=r (c Rq (c IL (c GB (c VP (c UY (c rJ (c rK (c II (c fO (c g726 (c A9 (c g738 (c nD (c nE n))))))))))))))
theorem g765:G e765:=r (c VQ (c e8 (c UY (c rJ (c rK (c fO (c g726 (c A9 (c nD (c nE (c UZ (c ei (c g758 (c er n))))))))))))))
end Eng.Aw
end
