/- Closed runs, printed by a program (gather); each by the kernel. -/
import Derived.Test.YtfipmjpmflmbbaaGreatDAwDat
import Derived.Test.YtfipmjpmflmbbaaGreatDAw5
import Derived.Test.YtfipmjpmflmbbaaGreatDAw11
import Derived.Test.YtfipmjpmflmbbaaGreatDAw28
import Derived.Test.YtfipmjpmflmbbaaGreatDAw2
import Derived.Test.YtfipmjpmflmbbaaGreatDAw4
import Derived.Test.YtfipmjpmflmbbaaGreatDAw6
section
namespace Eng.Aw
open Go Go.Proofs
set_option maxRecDepth 1000000
theorem g583:G e583:=r (c g17 (c g375 (c g383 (c oN (c g581 n)))))
theorem pR:G gy:=r (c OK (c DV (c aj (c fP (c fK (c fL (c fQ n)))))))
theorem pS:G gB:=r (c OK (c fM (c fN (c rC n))))
theorem pT:G gE:=r (c OK (c DV (c DW (c fQ n))))
theorem pU:G gG:=r (c GD (c VU (c af (c eA (c eB (c nK n))))))
theorem pV:G gH:=r (c VT (c VU (c nJ n)))
theorem pW:G gL:=r (c VT (c AQ (c VU n)))
theorem pX:G gO:=r (c Td (c fW (c fX (c AS (c To (c fY (c nI (c rl (c OJ (c fv n))))))))))
end Eng.Aw
end
