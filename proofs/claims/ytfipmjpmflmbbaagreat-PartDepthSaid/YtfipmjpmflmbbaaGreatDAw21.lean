/- Closed runs, printed by a program (gather); each by the kernel. -/
import Derived.Test.YtfipmjpmflmbbaaGreatDAwDat
import Derived.Test.YtfipmjpmflmbbaaGreatDAw2
import Derived.Test.YtfipmjpmflmbbaaGreatDAw5
import Derived.Test.YtfipmjpmflmbbaaGreatDAw4
import Derived.Test.YtfipmjpmflmbbaaGreatDAw6
import Derived.Test.YtfipmjpmflmbbaaGreatDAw10
import Derived.Test.YtfipmjpmflmbbaaGreatDAw11
import Derived.Test.YtfipmjpmflmbbaaGreatDAw14
section
namespace Eng.Aw
open Go Go.Proofs
set_option maxRecDepth 1000000
theorem pt:G gF:=r (c fq (c eo (c fO n)))
theorem pu:G gI:=r (c fq (c eo (c fO n)))
theorem pw:G gQ:=r (c g626 (c g634 (c GD (c VT (c mR (c nJ (c fq (c eo (c oJ (c nd n))))))))))
theorem pz:G gR:=r (c GD (c g662 (c g670 (c VU (c af (c eA (c eB (c ei (c nK (c fq (c eo (c oI (c nc n)))))))))))))
theorem pA:G gS:=r (c VU (c Te (c nJ (c oO (c g908 (c mY (c oI (c nc (c oK (c nf n))))))))))
end Eng.Aw
end
