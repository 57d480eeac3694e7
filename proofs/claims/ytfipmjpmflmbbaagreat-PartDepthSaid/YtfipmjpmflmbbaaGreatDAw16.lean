/- Closed runs, printed by a program (gather); each by the kernel. -/
import Derived.Test.YtfipmjpmflmbbaaGreatDAwDat
import Derived.Test.YtfipmjpmflmbbaaGreatDAw2
import Derived.Test.YtfipmjpmflmbbaaGreatDAw6
import Derived.Test.YtfipmjpmflmbbaaGreatDAw4
import Derived.Test.YtfipmjpmflmbbaaGreatDAw10
import Derived.Test.YtfipmjpmflmbbaaGreatDAw11
import Derived.Test.YtfipmjpmflmbbaaGreatDAw5
import Derived.Test.YtfipmjpmflmbbaaGreatDAw14
section
namespace Eng.Aw
open Go Go.Proofs
set_option maxRecDepth 1000000
theorem oU:G gJ:=r (c ei n)
theorem oV:G gM:=r (c ak (c GC (c fT (c fU n))))
theorem oW:G gN:=r (c ak (c GC (c fT (c fU n))))
theorem g54:G e54:=r (c g53 n)
theorem g87:G e87:=r (c g86 n)
theorem ng:G e127:=r (c eg n)
theorem nh:G e133:=r (c fk n)
theorem ni:G e143:=r (c fm n)
theorem nj:G e151:=r (c fo n)
theorem oX:G e180:=r (c g53 n)
theorem oY:G e184:=r (c g86 n)
theorem oZ:G e221:=r (c R5 n)
theorem pb:G e262:=r (c R3 n)
theorem g287:G e287:=r (c g53 (c g93 (c R3 (c pn (c fI (c et (c ny (c pp n))))))))
theorem nk:G e494:=r (c mM (c mU (c mN (c mV n))))
theorem g499:G e499:=r (c mM (c mN (c mW n)))
theorem g506:G e506:=r (c mV (c mW n))
theorem g535:G e535:=r (c np (c rP (c g533 n)))
theorem pc:G e544:=r (c np (c ns (c rP (c mO (c g533 (c mP n))))))
theorem g551:G e551:=r (c ns (c rP (c mO (c mP (c g549 n)))))
theorem g580:G e580:=r (c g37 (c ep (c rN (c g473 (c eh n)))))
theorem g642:G e642:=r (c ew (c rQ (c g626 (c g634 (c mR n)))))
theorem g679:G e679:=r (c ew (c rR (c g662 (c g670 (c ei n)))))
theorem g774:G e774:=r (c GD (c VT (c VU (c Td (c rF (c rG (c aa (c g745 (c g746 (c mX (c Te (c ej (c g765 (c g767 (c rS n)))))))))))))))
theorem g843:G e843:=r (c GD (c VT (c AQ (c VU (c nC (c Td (c aa (c mX (c Te (c ej (c g767 (c am (c To (c nH (c g821 (c nJ (c oO (c rI n))))))))))))))))))
theorem g873:G e873:=r (c nC (c Td (c To (c nH (c rI (c g846 (c g863 (c g865 n))))))))
end Eng.Aw
end
