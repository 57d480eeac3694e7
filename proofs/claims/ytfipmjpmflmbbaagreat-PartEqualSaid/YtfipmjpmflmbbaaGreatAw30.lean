/- Closed runs, printed by a program (gather); each by the kernel. -/
import Derived.Test.YtfipmjpmflmbbaaGreatAwDat
import Derived.Test.YtfipmjpmflmbbaaGreatAw5
import Derived.Test.YtfipmjpmflmbbaaGreatAw11
import Derived.Test.YtfipmjpmflmbbaaGreatAw28
import Derived.Test.YtfipmjpmflmbbaaGreatAw2
import Derived.Test.YtfipmjpmflmbbaaGreatAw4
import Derived.Test.YtfipmjpmflmbbaaGreatAw6
section
namespace Eng.Aw
open Go Go.Proofs
set_option maxRecDepth 1000000
theorem g583:G e583:=r (c g17 (c g375 (c g383 (c oS (c g581 n)))))
theorem pV:G gj:=r (c O8 (c DG (c IP (c fJ (c fE (c fF (c fK n)))))))
theorem pW:G gn:=r (c O8 (c fG (c fH (c rG n))))
theorem pX:G gw:=r (c O8 (c DG (c DH (c fK n))))
theorem pY:G gy:=r (c GB (c VQ (c IM (c eu (c ew (c nK n))))))
theorem pZ:G gA:=r (c VP (c VQ (c nJ n)))
theorem rd:G gD:=r (c VP (c A7 (c VQ n)))
theorem re:G gG:=r (c UY (c fO (c fP (c A9 (c Tj (c fQ (c nI (c rt (c O7 (c fl n))))))))))
end Eng.Aw
end
