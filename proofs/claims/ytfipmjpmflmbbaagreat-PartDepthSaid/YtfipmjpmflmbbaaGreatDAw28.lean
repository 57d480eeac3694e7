/- Closed runs, printed by a program (gather); each by the kernel. -/
import Derived.Test.YtfipmjpmflmbbaaGreatDAwDat
import Derived.Test.YtfipmjpmflmbbaaGreatDAw2
import Derived.Test.YtfipmjpmflmbbaaGreatDAw5
import Derived.Test.YtfipmjpmflmbbaaGreatDAw6
import Derived.Test.YtfipmjpmflmbbaaGreatDAw11
import Derived.Test.YtfipmjpmflmbbaaGreatDAw10
import Derived.Test.YtfipmjpmflmbbaaGreatDAw16
import Derived.Test.YtfipmjpmflmbbaaGreatDAw24
import Derived.Test.YtfipmjpmflmbbaaGreatDAw23
import Derived.Test.YtfipmjpmflmbbaaGreatDAw25
section
namespace Eng.Aw
open Go Go.Proofs
set_option maxRecDepth 1000000
theorem g566:G e566:=r (c nz (c n0 (c np (c ns (c mO (c mP (c pF (c g549 (c pG (c g560 n))))))))))
theorem pQ:G gX:=r (c fV (c rE (c pP n)))
theorem g349:G e349:=r (c g1 (c g2 (c g53 (c g74 (c g86 (c DR (c fZ (c mT (c eg (c ng (c fk (c nh (c fm (c ni (c R3 (c R5 (c fo (c nj (c pj (c pn (c fI (c g168 (c et (c g173 (c po (c oX (c g182 (c pM (c g192 (c ny (c pp (c g202 (c g206 (c rL (c g218 (c pN (c g241 (c fJ (c pb (c pC (c g266 (c g269 (c pe (c g278 (c g287 (c g304 (c pD (c g318 (c g328 (c g346 (c g348 n)))))))))))))))))))))))))))))))))))))))))))))))))))
theorem g568:G e568:=r (c nz (c n0 (c g504 (c g518 (c pF (c pG (c g553 (c g557 (c g560 (c g566 n))))))))))
theorem g375:G e375:=r (c g19 (c g21 (c g22 (c g25 (c g39 (c g42 (c g54 (c g58 (c g70 (c g73 (c g87 (c g95 (c g98 (c oG (c g110 (c g113 (c mT (c g152 (c g349 (c g356 (c g357 (c g374 n))))))))))))))))))))))
theorem g581:G e581:=r (c g383 (c g405 (c g409 (c mK (c mL (c g455 (c g464 (c eh (c fj (c g568 (c g580 n)))))))))))
end Eng.Aw
end
