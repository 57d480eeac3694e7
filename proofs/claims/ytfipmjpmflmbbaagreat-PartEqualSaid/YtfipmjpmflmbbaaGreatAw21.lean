/- Closed runs, printed by a program (gather); each by the kernel. -/
import Derived.Test.YtfipmjpmflmbbaaGreatAwDat
import Derived.Test.YtfipmjpmflmbbaaGreatAw2
import Derived.Test.YtfipmjpmflmbbaaGreatAw5
import Derived.Test.YtfipmjpmflmbbaaGreatAw4
import Derived.Test.YtfipmjpmflmbbaaGreatAw6
import Derived.Test.YtfipmjpmflmbbaaGreatAw10
import Derived.Test.YtfipmjpmflmbbaaGreatAw11
import Derived.Test.YtfipmjpmflmbbaaGreatAw14
section
namespace Eng.Aw
open Go Go.Proofs
set_option maxRecDepth 1000000
theorem pA:G gx:=r (c fj (c ek (c fI n)))
theorem pB:G gB:=r (c fj (c ek (c fI n)))
theorem pC:G gI:=r (c g626 (c g634 (c GB (c VP (c mR (c nJ (c fj (c ek (c oN (c nd n))))))))))
theorem pD:G gJ:=r (c GB (c g662 (c g670 (c VQ (c IM (c eu (c ew (c eh (c nK (c fj (c ek (c oM (c nc n)))))))))))))
theorem pE:G gL:=r (c VQ (c UZ (c nJ (c oT (c g908 (c mY (c oM (c nc (c oO (c nf n))))))))))
end Eng.Aw
end
