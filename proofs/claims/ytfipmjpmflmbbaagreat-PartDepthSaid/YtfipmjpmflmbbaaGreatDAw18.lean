/- Closed runs, printed by a program (gather); each by the kernel. -/
import Derived.Test.YtfipmjpmflmbbaaGreatDAwDat
import Derived.Test.YtfipmjpmflmbbaaGreatDAw2
import Derived.Test.YtfipmjpmflmbbaaGreatDAw5
import Derived.Test.YtfipmjpmflmbbaaGreatDAw4
import Derived.Test.YtfipmjpmflmbbaaGreatDAw6
import Derived.Test.YtfipmjpmflmbbaaGreatDAw11
import Derived.Test.YtfipmjpmflmbbaaGreatDAw14
section
namespace Eng.Aw
open Go Go.Proofs
set_option maxRecDepth 1000000
theorem g895:G e895:=r (c GD (c VT (c VU (c fG (c aa (c mX (c Te (c ej (c rS (c nP (c rJ (c g880 (c nK (c g889 n))))))))))))))
theorem g912:G e912:=r (c DD (c fE (c ew (c rQ (c rR (c oO (c g908 (c mY n))))))))
theorem g938:G e938:=r (c DD (c fE (c ew (c rQ (c rR (c g930 (c g933 (c fp n))))))))
theorem g958:G e958:=r (c VT (c AQ (c VU (c ei (c fp (c g946 (c eo (c nc (c nd (c nf n))))))))))
theorem g993:G e993:=r (c DD (c fy (c nQ (c g967 (c g970 (c mZ (c fu n)))))))
theorem ab:G rY:=r (c To (c mZ (c ah (c DT (c DU n)))))
theorem ac:G sc:=r (c Td (c nG (c fy (c ah (c DT (c DU n))))))
theorem f9:G sj:=r (c DD (c fy (c nQ (c g967 (c g970 (c mZ (c fu n)))))))
theorem fA:G so:=r (c To (c mZ (c DT (c DU (c ai n)))))
theorem fB:G su:=r (c Td (c nG (c fy (c DT (c DU (c ai n))))))
theorem pd:G s6:=r (c gg (c DS n))
end Eng.Aw
end
