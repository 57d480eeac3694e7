/- Closed runs, printed by a program (gather); each by the kernel. -/
import Derived.Test.YtfipmjpmflmbbaaGreatAwDat
import Derived.Test.YtfipmjpmflmbbaaGreatAw2
import Derived.Test.YtfipmjpmflmbbaaGreatAw6
import Derived.Test.YtfipmjpmflmbbaaGreatAw4
import Derived.Test.YtfipmjpmflmbbaaGreatAw10
import Derived.Test.YtfipmjpmflmbbaaGreatAw11
import Derived.Test.YtfipmjpmflmbbaaGreatAw5
import Derived.Test.YtfipmjpmflmbbaaGreatAw14
section
namespace Eng.Aw
open Go Go.Proofs
set_option maxRecDepth 1000000
theorem oY:G gC:=r (c eh n)
theorem oZ:G gE:=r (c IQ (c GA (c fL (c fM n))))
theorem pb:G gF:=r (c IQ (c GA (c fL (c fM n))))
theorem g54:G e54:=r (c g53 n)
theorem g87:G e87:=r (c g86 n)
theorem ng:G e127:=r (c ef n)
theorem nh:G e133:=r (c fe n)
theorem ni:G e143:=r (c ff n)
theorem nj:G e151:=r (c fh n)
theorem pc:G e180:=r (c g53 n)
theorem pd:G e184:=r (c g86 n)
theorem pe:G e221:=r (c Rx n)
theorem pg:G e262:=r (c Rw n)
theorem g287:G e287:=r (c g53 (c g93 (c Rw (c pt (c fC (c ep (c ny (c pw n))))))))
theorem nk:G e494:=r (c mM (c mU (c mN (c mV n))))
theorem g499:G e499:=r (c mM (c mN (c mW n)))
theorem g506:G e506:=r (c mV (c mW n))
theorem g535:G e535:=r (c np (c rT (c g533 n)))
theorem ph:G e544:=r (c np (c ns (c rT (c mO (c g533 (c mP n))))))
theorem g551:G e551:=r (c ns (c rT (c mO (c mP (c g549 n)))))
theorem g580:G e580:=r (c g37 (c eo (c rS (c g473 (c eg n)))))
theorem g642:G e642:=r (c et (c rU (c g626 (c g634 (c mR n)))))
theorem g679:G e679:=r (c et (c rV (c g662 (c g670 (c eh n)))))
theorem g774:G e774:=r (c GB (c VP (c VQ (c UY (c rJ (c rK (c II (c g745 (c g746 (c mX (c UZ (c ei (c g765 (c g767 (c rW n)))))))))))))))
theorem g843:G e843:=r (c GB (c VP (c A7 (c VQ (c nC (c UY (c II (c mX (c UZ (c ei (c g767 (c IR (c Tj (c nH (c g821 (c nJ (c oT (c rM n))))))))))))))))))
theorem g873:G e873:=r (c nC (c UY (c Tj (c nH (c rM (c g846 (c g863 (c g865 n))))))))
end Eng.Aw
end
