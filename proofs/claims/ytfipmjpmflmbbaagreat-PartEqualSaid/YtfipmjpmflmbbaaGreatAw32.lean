/- Closed runs, printed by a program (gather); each by the kernel. -/
import Derived.Test.YtfipmjpmflmbbaaGreatAwDat
import Derived.Test.YtfipmjpmflmbbaaGreatAw14
import Derived.Test.YtfipmjpmflmbbaaGreatAw18
import Derived.Test.YtfipmjpmflmbbaaGreatAw31
import Derived.Test.YtfipmjpmflmbbaaGreatCtF
import Derived.Test.YtfipmjpmflmbbaaGreatAw2
import Derived.Test.YtfipmjpmflmbbaaGreatAw5
import Derived.Test.YtfipmjpmflmbbaaGreatAw4
import Derived.Test.YtfipmjpmflmbbaaGreatAw11
import Derived.Test.YtfipmjpmflmbbaaGreatAw10
import Derived.Test.YtfipmjpmflmbbaaGreatAw16
import Derived.Test.YtfipmjpmflmbbaaGreatAw24
import Derived.Test.YtfipmjpmflmbbaaGreatAw30
section
namespace Eng.Aw
open Go Go.Proofs
set_option maxRecDepth 1000000
theorem rl:G te:=r2 (c pi (c rj (c rh n))) (by kernel_rfl)
theorem rm:G sY:=r2 (c g959 (c g960 (c g961 (c g962 (c ri n))))) (by kernel_rfl)
theorem rn:G tf:=r2 (c g993 (c GA (c Ti (c pL (c fp (c pM (c pN (c fo (c fN (c rl n)))))))))) (by kernel_rfl)
theorem rp:G tg:=r2 (c g587 (c g642 (c g643 (c g679 (c g680 (c g912 (c g913 (c g938 (c g939 (c g945 (c g958 (c rm (c rg (c rn n)))))))))))))) (by kernel_rfl)
theorem g1332:G th:=r2 (c g583 (c g584 (c g810 (c g843 (c g873 (c g905 (c rp n))))))) (by kernel_rfl)
end Eng.Aw
end
