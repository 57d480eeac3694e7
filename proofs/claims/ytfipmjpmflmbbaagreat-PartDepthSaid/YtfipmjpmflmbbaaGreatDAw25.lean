/- Closed runs, printed by a program (gather); each by the kernel. -/
import Derived.Test.YtfipmjpmflmbbaaGreatDAwDat
import Derived.Test.YtfipmjpmflmbbaaGreatDAw5
import Derived.Test.YtfipmjpmflmbbaaGreatDAw4
import Derived.Test.YtfipmjpmflmbbaaGreatDAw11
import Derived.Test.YtfipmjpmflmbbaaGreatDAw18
import Derived.Test.YtfipmjpmflmbbaaGreatDAw2
import Derived.Test.YtfipmjpmflmbbaaGreatDAw6
import Derived.Test.YtfipmjpmflmbbaaGreatDAw10
import Derived.Test.YtfipmjpmflmbbaaGreatDAw16
import Derived.Test.YtfipmjpmflmbbaaGreatDAw24
import Derived.Test.YtfipmjpmflmbbaaGreatDAw23
section
namespace Eng.Aw
open Go Go.Proofs
set_option maxRecDepth 1000000
theorem pO:G gV:=r (c Td (c To (c GC (c Tn (c fA (c fB (c rB n)))))))
theorem pP:G sT:=r (c ah (c ab (c ac (c Tn (c ai n)))))
theorem g241:G e241:=r (c g2 (c g53 (c g86 (c pn (c fI (c g168 (c et (c g182 (c pM (c rL (c g237 n)))))))))))
theorem g266:G e266:=r (c g6 (c g86 (c R3 (c fI (c g173 (c g244 (c fJ (c g256 (c pB (c pC n))))))))))
theorem g278:G e278:=r (c g86 (c fk (c nh (c fm (c ni (c oY (c pM (c pB n))))))))
theorem g304:G e304:=r (c g6 (c g86 (c R3 (c fI (c g237 (c fJ (c pB (c pC (c g300 n)))))))))
theorem g318:G e318:=r (c g12 (c R3 (c R5 (c et (c po (c ny (c fJ (c g256 (c pe (c g306 (c pD (c pE n))))))))))))
end Eng.Aw
end
