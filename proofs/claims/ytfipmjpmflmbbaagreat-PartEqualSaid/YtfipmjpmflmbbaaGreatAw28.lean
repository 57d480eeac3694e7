/- Closed runs, printed by a program (gather); each by the kernel. -/
import Derived.Test.YtfipmjpmflmbbaaGreatAwDat
import Derived.Test.YtfipmjpmflmbbaaGreatAw2
import Derived.Test.YtfipmjpmflmbbaaGreatAw5
import Derived.Test.YtfipmjpmflmbbaaGreatAw6
import Derived.Test.YtfipmjpmflmbbaaGreatAw11
import Derived.Test.YtfipmjpmflmbbaaGreatAw10
import Derived.Test.YtfipmjpmflmbbaaGreatAw16
import Derived.Test.YtfipmjpmflmbbaaGreatAw24
import Derived.Test.YtfipmjpmflmbbaaGreatAw23
import Derived.Test.YtfipmjpmflmbbaaGreatAw25
section
namespace Eng.Aw
open Go Go.Proofs
set_option maxRecDepth 1000000
theorem g566:G e566:=r (c nz (c n0 (c np (c ns (c mO (c mP (c pJ (c g549 (c pK (c g560 n))))))))))
theorem pU:G gQ:=r (c fN (c rI (c pT n)))
theorem g349:G e349:=r (c g1 (c g2 (c g53 (c g74 (c g86 (c DC (c fT (c mT (c ef (c ng (c fe (c nh (c ff (c ni (c Rw (c Rx (c fh (c nj (c pq (c pt (c fC (c g168 (c ep (c g173 (c pu (c pc (c g182 (c pQ (c g192 (c ny (c pw (c g202 (c g206 (c rQ (c g218 (c pR (c g241 (c fD (c pg (c pG (c g266 (c g269 (c pj (c g278 (c g287 (c g304 (c pH (c g318 (c g328 (c g346 (c g348 n)))))))))))))))))))))))))))))))))))))))))))))))))))
theorem g568:G e568:=r (c nz (c n0 (c g504 (c g518 (c pJ (c pK (c g553 (c g557 (c g560 (c g566 n))))))))))
theorem g375:G e375:=r (c g19 (c g21 (c g22 (c g25 (c g39 (c g42 (c g54 (c g58 (c g70 (c g73 (c g87 (c g95 (c g98 (c oK (c g110 (c g113 (c mT (c g152 (c g349 (c g356 (c g357 (c g374 n))))))))))))))))))))))
theorem g581:G e581:=r (c g383 (c g405 (c g409 (c mK (c mL (c g455 (c g464 (c eg (c fc (c g568 (c g580 n)))))))))))
end Eng.Aw
end
