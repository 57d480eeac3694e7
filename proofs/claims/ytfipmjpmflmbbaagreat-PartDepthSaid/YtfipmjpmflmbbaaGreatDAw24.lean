/- Closed runs, printed by a program (gather); each by the kernel. -/
import Derived.Test.YtfipmjpmflmbbaaGreatDAwDat
import Derived.Test.YtfipmjpmflmbbaaGreatDAw5
import Derived.Test.YtfipmjpmflmbbaaGreatDAw4
import Derived.Test.YtfipmjpmflmbbaaGreatDAw6
import Derived.Test.YtfipmjpmflmbbaaGreatDAw10
import Derived.Test.YtfipmjpmflmbbaaGreatDAw11
import Derived.Test.YtfipmjpmflmbbaaGreatDAw14
import Derived.Test.YtfipmjpmflmbbaaGreatDAw16
import Derived.Test.YtfipmjpmflmbbaaGreatDAw18
import Derived.Test.YtfipmjpmflmbbaaGreatDAw2
section
namespace Eng.Aw
open Go Go.Proofs
set_option maxRecDepth 1000000
theorem pF:G e545:=r (c mK (c g535 (c pc n)))
theorem pG:G e552:=r (c mL (c pc (c g551 n)))
theorem g553:G e553:=r (c eh (c fj (c mU (c nk (c g499 n)))))
theorem g560:G e560:=r (c eh (c fj (c g535 (c pc (c g551 n)))))
theorem g810:G e810:=r (c nC (c Td (c g774 (c To (c nG (c nH (c fY (c oH (c fy n)))))))))
theorem g905:G e905:=r (c nC (c Td (c To (c nH (c rI (c nP (c g895 (c g897 n))))))))
theorem g945:G e945:=r (c g642 (c g679 (c g912 (c g938 n))))
theorem pH:G si:=r (c gg (c fu (c DS (c ab (c GC (c ac (c Tn n)))))))
theorem pI:G sv:=r (c gg (c fu (c DS (c GC (c Tn (c fA (c fB n)))))))
theorem pJ:G sw:=r (c g993 (c f9 n))
theorem pK:G gU:=r (c Td (c To (c ab (c GC (c ac (c Tn (c rA n)))))))
theorem pL:G gT:=r (c VT (c Te (c am (c nK (c g930 (c g933 (c gd (c gf (c fp (c oJ (c nd (c oK (c nf n)))))))))))))
theorem g152:G e152:=r (c g44 (c g47 (c g52 (c g54 (c g74 (c g77 (c g78 (c g81 (c g87 (c DR (c fZ (c oG (c rK (c mT (c ng (c nh (c ni (c R3 (c R5 (c nj n))))))))))))))))))))
theorem g182:G e182:=r (c g42 (c g53 (c fk (c oX n))))
theorem pM:G e185:=r (c g70 (c g86 (c fk (c oY n))))
theorem g218:G e218:=r (c g39 (c g53 (c eg (c oX n))))
theorem pN:G e222:=r (c g113 (c eg (c R5 (c oZ n))))
end Eng.Aw
end
