/- Closed runs, printed by a program (gather); each by the kernel. -/
import Derived.Test.YtfipmjpmflmbbaaGreatAwDat
import Derived.Test.YtfipmjpmflmbbaaGreatAw2
import Derived.Test.YtfipmjpmflmbbaaGreatAw5
import Derived.Test.YtfipmjpmflmbbaaGreatAw4
import Derived.Test.YtfipmjpmflmbbaaGreatAw6
import Derived.Test.YtfipmjpmflmbbaaGreatAw11
import Derived.Test.YtfipmjpmflmbbaaGreatAw14
section
namespace Eng.Aw
open Go Go.Proofs
set_option maxRecDepth 1000000
theorem g895:G e895:=r (c GB (c VP (c VQ (c fA (c II (c mX (c UZ (c ei (c rW (c nP (c rN (c g880 (c nK (c g889 n))))))))))))))
theorem g912:G e912:=r (c Dy (c fy (c et (c rU (c rV (c oT (c g908 (c mY n))))))))
theorem g938:G e938:=r (c Dy (c fy (c et (c rU (c rV (c g930 (c g933 (c fi n))))))))
theorem g958:G e958:=r (c VP (c A7 (c VQ (c eh (c fi (c g946 (c ek (c nc (c nd (c nf n))))))))))
theorem g993:G e993:=r (c Dy (c fm (c nQ (c g967 (c g970 (c mZ (c fk n)))))))
theorem IJ:G sd:=r (c Tj (c mZ (c IN (c DE (c DF n)))))
theorem IK:G sk:=r (c UY (c nG (c fm (c IN (c DE (c DF n))))))
theorem fp:G su:=r (c Dy (c fm (c nQ (c g967 (c g970 (c mZ (c fk n)))))))
theorem fq:G sw:=r (c Tj (c mZ (c DE (c DF (c IO n)))))
theorem fu:G s4:=r (c UY (c nG (c fm (c DE (c DF (c IO n))))))
theorem pi:G s9:=r (c fW (c DD n))
end Eng.Aw
end
