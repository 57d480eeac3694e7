/- Closed runs, printed by a program (gather); each by the kernel. -/
import Derived.Test.YtkkodaemmgpgfaaGreatDoorAwDat
import Derived.Test.YtkkodaemmgpgfaaGreatDoorAw4
import Derived.Test.YtkkodaemmgpgfaaGreatDoorAw5
import Derived.Test.YtkkodaemmgpgfaaGreatDoorAw8
import Derived.Test.YtkkodaemmgpgfaaGreatDoorAw9
import Derived.Test.YtkkodaemmgpgfaaGreatDoorAw10
import Derived.Test.YtkkodaemmgpgfaaGreatDoorAw11
section
namespace Eng.Aw
open Go Go.Proofs
set_option maxRecDepth 1000000
theorem g181 : G e181 := r (c g58 (c g179 (c g180 n))) (by kernel_rfl)
theorem g184 : G e184 := r (c g82 (c g182 (c g183 n))) (by kernel_rfl)
theorem g217 : G e217 := r (c g55 (c g179 (c g216 n))) (by kernel_rfl)
theorem g221 : G e221 := r (c g117 (c g219 (c g220 n))) (by kernel_rfl)
theorem g224 : G e224 := r (c g127 (c g133 (c g179 (c g180 (c g216 n))))) (by kernel_rfl)
theorem g255 : G e255 := r (c g86 (c g183 (c g254 n))) (by kernel_rfl)
theorem g259 : G e259 := r (c g99 (c g257 (c g258 n))) (by kernel_rfl)
theorem g271 : G e271 := r (c g133 (c g141 (c g182 (c g183 (c g254 n))))) (by kernel_rfl)
theorem g312 : G e312 := r (c g102 (c g257 (c g311 n))) (by kernel_rfl)
theorem g315 : G e315 := r (c g114 (c g220 (c g314 n))) (by kernel_rfl)
theorem g318 : G e318 := r (c g141 (c g149 (c g257 (c g258 (c g311 n))))) (by kernel_rfl)
theorem g341 : G e341 := r (c g127 (c g149 (c g219 (c g220 (c g314 n))))) (by kernel_rfl)
theorem g351 : G e351 := r (c g70 (c g94 (c g110 (c g133 (c g135 (c g137 (c g139 (c g141 (c g142 (c g144 (c g147 (c g149 (c g159 (c g335 n)))))))))))))) (by kernel_rfl)
theorem g367 : G e367 := r (c g126 (c g127 (c g359 (c g365 n)))) (by kernel_rfl)
theorem g479 : G e479 := r (c g386 (c g387 (c g389 (c g390 (c g393 (c g459 (c g470 (c g478 n)))))))) (by kernel_rfl)
theorem g520 : G e520 := r (c g389 (c g393 (c g474 (c g488 (c g491 (c g494 (c g519 n))))))) (by kernel_rfl)
theorem g586 : G e586 := r (c g386 (c g389 (c g393 (c g560 (c g584 (c g585 n)))))) (by kernel_rfl)
theorem g599 : G e599 := r (c g459 (c g488 (c g497 (c g560 (c g585 (c g598 n)))))) (by kernel_rfl)
theorem g186 : G e186 := r (c g69 (c g93 (c g159 (c g177 (c g181 (c g184 n)))))) (by kernel_rfl)
theorem g223 : G e223 := r (c g69 (c g144 (c g201 (c g214 (c g217 (c g221 (c g222 n))))))) (by kernel_rfl)
theorem g225 : G e225 := r (c g181 (c g217 (c g224 n))) (by kernel_rfl)
theorem g241 : G e241 := r (c g69 (c g93 (c g181 (c g184 (c g226 (c g238 (c g240 n))))))) (by kernel_rfl)
end Eng.Aw
end
