/- Closed runs, printed by a program (gather); each by the kernel. -/
import Derived.Test.YtfipmjpmflmbbaaGreatAwDat
import Derived.Test.YtfipmjpmflmbbaaGreatAw4
import Derived.Test.YtfipmjpmflmbbaaGreatAw14
import Derived.Test.YtfipmjpmflmbbaaGreatAw18
import Derived.Test.YtfipmjpmflmbbaaGreatCtF
import Derived.Test.YtfipmjpmflmbbaaGreatAw6
section
namespace Eng.Aw
open Go Go.Proofs
set_option maxRecDepth 1000000
theorem rf:G sZ:=r2 n (by kernel_rfl)
theorem rg:G tc:=r2 (c ek (c nc (c nd (c nf (c O8 (c rf n)))))) (by kernel_rfl)
theorem rh:G td:=r2 (c fo n) (by kernel_rfl)
theorem ri:G sX:=r2 (c g958 (c O8 (c fE (c fF (c fG (c fH n)))))) (by kernel_rfl)
theorem rj:G sA:=r (c fW (c DD n))
end Eng.Aw
end
