/- Closed runs, printed by a program (gather); each by the kernel. -/
import Derived.Test.YtfipmjpmflmbbaaGreatDAwDat
import Derived.Test.YtfipmjpmflmbbaaGreatDAw4
import Derived.Test.YtfipmjpmflmbbaaGreatDAw14
import Derived.Test.YtfipmjpmflmbbaaGreatDAw18
import Derived.Test.YtfipmjpmflmbbaaGreatDCtF
import Derived.Test.YtfipmjpmflmbbaaGreatDAw6
section
namespace Eng.Aw
open Go Go.Proofs
set_option maxRecDepth 1000000
theorem pY:G sW:=r2 n (by kernel_rfl)
theorem pZ:G sX:=r2 (c eo (c nc (c nd (c nf (c OK (c pY n)))))) (by kernel_rfl)
theorem rd:G sY:=r2 (c f7 n) (by kernel_rfl)
theorem re:G sU:=r2 (c g958 (c OK (c fK (c fL (c fM (c fN n)))))) (by kernel_rfl)
theorem rf:G s7:=r (c gg (c DS n))
end Eng.Aw
end
