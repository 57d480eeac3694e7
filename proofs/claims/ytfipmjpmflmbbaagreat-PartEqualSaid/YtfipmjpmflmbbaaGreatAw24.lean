/- Closed runs, printed by a program (gather); each by the kernel. -/
import Derived.Test.YtfipmjpmflmbbaaGreatAwDat
import Derived.Test.YtfipmjpmflmbbaaGreatAw5
import Derived.Test.YtfipmjpmflmbbaaGreatAw4
import Derived.Test.YtfipmjpmflmbbaaGreatAw6
import Derived.Test.YtfipmjpmflmbbaaGreatAw10
import Derived.Test.YtfipmjpmflmbbaaGreatAw11
import Derived.Test.YtfipmjpmflmbbaaGreatAw14
import Derived.Test.YtfipmjpmflmbbaaGreatAw16
import Derived.Test.YtfipmjpmflmbbaaGreatAw18
import Derived.Test.YtfipmjpmflmbbaaGreatAw2
section
namespace Eng.Aw
open Go Go.Proofs
set_option maxRecDepth 1000000
theorem pJ:G e545:=r (c mK (c g535 (c ph n)))
theorem pK:G e552:=r (c mL (c ph (c g551 n)))
theorem g553:G e553:=r (c eg (c fc (c mU (c nk (c g499 n)))))
theorem g560:G e560:=r (c eg (c fc (c g535 (c ph (c g551 n)))))
theorem g810:G e810:=r (c nC (c UY (c g774 (c Tj (c nG (c nH (c fQ (c oL (c fm n)))))))))
theorem g905:G e905:=r (c nC (c UY (c Tj (c nH (c rM (c nP (c g895 (c g897 n))))))))
theorem g945:G e945:=r (c g642 (c g679 (c g912 (c g938 n))))
theorem pL:G ss:=r (c fW (c fk (c DD (c IJ (c GA (c IK (c Ti n)))))))
theorem pM:G s5:=r (c fW (c fk (c DD (c GA (c Ti (c fq (c fu n)))))))
theorem pN:G s6:=r (c g993 (c fp n))
theorem pO:G gN:=r (c UY (c Tj (c IJ (c GA (c IK (c Ti (c rE n)))))))
theorem pP:G gM:=r (c VP (c UZ (c IR (c nK (c g930 (c g933 (c fU (c fV (c fi (c oN (c nd (c oO (c nf n)))))))))))))
theorem g152:G e152:=r (c g44 (c g47 (c g52 (c g54 (c g74 (c g77 (c g78 (c g81 (c g87 (c DC (c fT (c oK (c rP (c mT (c ng (c nh (c ni (c Rw (c Rx (c nj n))))))))))))))))))))
theorem g182:G e182:=r (c g42 (c g53 (c fe (c pc n))))
theorem pQ:G e185:=r (c g70 (c g86 (c fe (c pd n))))
theorem g218:G e218:=r (c g39 (c g53 (c ef (c pc n))))
theorem pR:G e222:=r (c g113 (c ef (c Rx (c pe n))))
end Eng.Aw
end
