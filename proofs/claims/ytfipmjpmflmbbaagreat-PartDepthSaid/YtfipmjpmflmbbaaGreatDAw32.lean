/- Closed runs, printed by a program (gather); each by the kernel. -/
import Derived.Test.YtfipmjpmflmbbaaGreatDAwDat
import Derived.Test.YtfipmjpmflmbbaaGreatDAw14
import Derived.Test.YtfipmjpmflmbbaaGreatDAw18
import Derived.Test.YtfipmjpmflmbbaaGreatDAw31
import Derived.Test.YtfipmjpmflmbbaaGreatDCtF
import Derived.Test.YtfipmjpmflmbbaaGreatDAw2
import Derived.Test.YtfipmjpmflmbbaaGreatDAw5
import Derived.Test.YtfipmjpmflmbbaaGreatDAw4
import Derived.Test.YtfipmjpmflmbbaaGreatDAw11
import Derived.Test.YtfipmjpmflmbbaaGreatDAw10
import Derived.Test.YtfipmjpmflmbbaaGreatDAw16
import Derived.Test.YtfipmjpmflmbbaaGreatDAw24
import Derived.Test.YtfipmjpmflmbbaaGreatDAw30
section
namespace Eng.Aw
open Go Go.Proofs
set_option maxRecDepth 1000000
theorem rg:G sZ:=r2 (c pd (c rf (c rd n))) (by kernel_rfl)
theorem rh:G sV:=r2 (c g959 (c g960 (c g961 (c g962 (c re n))))) (by kernel_rfl)
theorem ri:G tc:=r2 (c g993 (c GC (c Tn (c pH (c f9 (c pI (c pJ (c f7 (c fV (c rg n)))))))))) (by kernel_rfl)
theorem rj:G td:=r2 (c g587 (c g642 (c g643 (c g679 (c g680 (c g912 (c g913 (c g938 (c g939 (c g945 (c g958 (c rh (c pZ (c ri n)))))))))))))) (by kernel_rfl)
theorem g1332:G te:=r2 (c g583 (c g584 (c g810 (c g843 (c g873 (c g905 (c rj n))))))) (by kernel_rfl)
end Eng.Aw
end
