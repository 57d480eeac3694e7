/- Closed runs, printed by a program (gather); each by the kernel. -/
import Derived.Test.YtfipmjpmflmbbaaGreatAwDat
import Derived.Test.YtfipmjpmflmbbaaGreatAw2
import Derived.Test.YtfipmjpmflmbbaaGreatAw5
import Derived.Test.YtfipmjpmflmbbaaGreatAw6
import Derived.Test.YtfipmjpmflmbbaaGreatAw11
import Derived.Test.YtfipmjpmflmbbaaGreatAw10
import Derived.Test.YtfipmjpmflmbbaaGreatAw16
import Derived.Test.YtfipmjpmflmbbaaGreatAw24
section
namespace Eng.Aw
open Go Go.Proofs
set_option maxRecDepth 1000000
theorem pF:G e260:=r (c g73 (c g86 (c ff (c pd n))))
theorem pG:G e264:=r (c g95 (c ff (c Rw (c pg n))))
theorem pH:G e313:=r (c g98 (c Rw (c fh (c pg n))))
theorem pI:G e316:=r (c g110 (c Rx (c fh (c pe n))))
theorem g357:G e357:=r (c g44 (c g47 (c g52 (c g54 (c g74 (c g77 (c g78 (c g81 (c g87 (c DC (c fT (c oK (c rP (c nh (c ni (c Rw (c Rx (c nj (c pq (c g341 n))))))))))))))))))))
theorem g374:G e374:=r (c g34 (c g44 (c g47 (c g52 (c g53 (c DC (c fT (c ej (c mT (c ef (c ng (c Rx n))))))))))))
theorem nz:G e495:=r (c mK (c mU (c nk n)))
theorem n0:G e500:=r (c mL (c nk (c g499 n)))
theorem g518:G e518:=r (c oS (c mK (c mL (c g463 (c g464 (c eg (c fc (c mU (c mV (c mW (c g506 n)))))))))))
theorem g328:G e328:=r (c g1 (c g53 (c Rx (c ep (c pu (c pw (c g206 (c g218 (c pR n)))))))))
theorem g346:G e346:=r (c g12 (c Rw (c Rx (c ep (c ny (c rQ (c fD (c pj (c g300 (c pH (c pI (c g341 n))))))))))))
theorem g348:G e348:=r (c ef (c ng (c Rx (c fh (c nj (c pe (c pR (c pI n))))))))
theorem g504:G e504:=r (c oS (c g454 (c g455 (c eg (c fc (c nk (c nz (c n0 n))))))))
theorem g557:G e557:=r (c mV (c nz (c mW (c n0 (c pJ (c pK (c g553 n)))))))
end Eng.Aw
end
