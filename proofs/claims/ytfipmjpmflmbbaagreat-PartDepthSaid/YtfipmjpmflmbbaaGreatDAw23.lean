/- Closed runs, printed by a program (gather); each by the kernel. -/
import Derived.Test.YtfipmjpmflmbbaaGreatDAwDat
import Derived.Test.YtfipmjpmflmbbaaGreatDAw2
import Derived.Test.YtfipmjpmflmbbaaGreatDAw5
import Derived.Test.YtfipmjpmflmbbaaGreatDAw6
import Derived.Test.YtfipmjpmflmbbaaGreatDAw11
import Derived.Test.YtfipmjpmflmbbaaGreatDAw10
import Derived.Test.YtfipmjpmflmbbaaGreatDAw16
import Derived.Test.YtfipmjpmflmbbaaGreatDAw24
section
namespace Eng.Aw
open Go Go.Proofs
set_option maxRecDepth 1000000
theorem pB:G e260:=r (c g73 (c g86 (c fm (c oY n))))
theorem pC:G e264:=r (c g95 (c fm (c R3 (c pb n))))
theorem pD:G e313:=r (c g98 (c R3 (c fo (c pb n))))
theorem pE:G e316:=r (c g110 (c R5 (c fo (c oZ n))))
theorem g357:G e357:=r (c g44 (c g47 (c g52 (c g54 (c g74 (c g77 (c g78 (c g81 (c g87 (c DR (c fZ (c oG (c rK (c nh (c ni (c R3 (c R5 (c nj (c pj (c g341 n))))))))))))))))))))
theorem g374:G e374:=r (c g34 (c g44 (c g47 (c g52 (c g53 (c DR (c fZ (c ek (c mT (c eg (c ng (c R5 n))))))))))))
theorem nz:G e495:=r (c mK (c mU (c nk n)))
theorem n0:G e500:=r (c mL (c nk (c g499 n)))
theorem g518:G e518:=r (c oN (c mK (c mL (c g463 (c g464 (c eh (c fj (c mU (c mV (c mW (c g506 n)))))))))))
theorem g328:G e328:=r (c g1 (c g53 (c R5 (c et (c po (c pp (c g206 (c g218 (c pN n)))))))))
theorem g346:G e346:=r (c g12 (c R3 (c R5 (c et (c ny (c rL (c fJ (c pe (c g300 (c pD (c pE (c g341 n))))))))))))
theorem g348:G e348:=r (c eg (c ng (c R5 (c fo (c nj (c oZ (c pN (c pE n))))))))
theorem g504:G e504:=r (c oN (c g454 (c g455 (c eh (c fj (c nk (c nz (c n0 n))))))))
theorem g557:G e557:=r (c mV (c nz (c mW (c n0 (c pF (c pG (c g553 n)))))))
end Eng.Aw
end
