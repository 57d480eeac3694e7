/- Closed runs, printed by a program (gather); each by the kernel. -/
import Derived.Test.YtfipmjpmflmbbaaGreatAwDat
import Derived.Test.YtfipmjpmflmbbaaGreatAw5
import Derived.Test.YtfipmjpmflmbbaaGreatAw4
import Derived.Test.YtfipmjpmflmbbaaGreatAw11
import Derived.Test.YtfipmjpmflmbbaaGreatAw18
import Derived.Test.YtfipmjpmflmbbaaGreatAw2
import Derived.Test.YtfipmjpmflmbbaaGreatAw6
import Derived.Test.YtfipmjpmflmbbaaGreatAw10
import Derived.Test.YtfipmjpmflmbbaaGreatAw16
import Derived.Test.YtfipmjpmflmbbaaGreatAw24
import Derived.Test.YtfipmjpmflmbbaaGreatAw23
section
namespace Eng.Aw
open Go Go.Proofs
set_option maxRecDepth 1000000
theorem pS:G gO:=r (c UY (c Tj (c GA (c Ti (c fq (c fu (c rF n)))))))
theorem pT:G sW:=r (c IN (c IJ (c IK (c Ti (c IO n)))))
theorem g241:G e241:=r (c g2 (c g53 (c g86 (c pt (c fC (c g168 (c ep (c g182 (c pQ (c rQ (c g237 n)))))))))))
theorem g266:G e266:=r (c g6 (c g86 (c Rw (c fC (c g173 (c g244 (c fD (c g256 (c pF (c pG n))))))))))
theorem g278:G e278:=r (c g86 (c fe (c nh (c ff (c ni (c pd (c pQ (c pF n))))))))
theorem g304:G e304:=r (c g6 (c g86 (c Rw (c fC (c g237 (c fD (c pF (c pG (c g300 n)))))))))
theorem g318:G e318:=r (c g12 (c Rw (c Rx (c ep (c pu (c ny (c fD (c g256 (c pj (c g306 (c pH (c pI n))))))))))))
end Eng.Aw
end
