/- Closed runs, printed by a program (gather); each by the kernel. -/
import Derived.Test.YtkkodaemmgpgfaaGreatDoorAwDat
import Derived.Test.YtkkodaemmgpgfaaGreatDoorAw1
import Derived.Test.YtkkodaemmgpgfaaGreatDoorAw6
import Derived.Test.YtkkodaemmgpgfaaGreatDoorAw8
import Derived.Test.YtkkodaemmgpgfaaGreatDoorAw9
import Derived.Test.YtkkodaemmgpgfaaGreatDoorAw10
import Derived.Test.YtkkodaemmgpgfaaGreatDoorAw11
import Derived.Test.YtkkodaemmgpgfaaGreatDoorAw12
section
namespace Eng.Aw
open Go Go.Proofs
set_option maxRecDepth 1000000
theorem g261 : G e261 := r (c g93 (c g142 (c g244 (c g252 (c g255 (c g259 (c g260 n))))))) (by kernel_rfl)
theorem g272 : G e272 := r (c g184 (c g255 (c g271 n))) (by kernel_rfl)
theorem g303 : G e303 := r (c g93 (c g142 (c g255 (c g259 (c g296 (c g300 (c g302 n))))))) (by kernel_rfl)
theorem g317 : G e317 := r (c g142 (c g144 (c g305 (c g308 (c g312 (c g315 n)))))) (by kernel_rfl)
theorem g319 : G e319 := r (c g259 (c g312 (c g318 n))) (by kernel_rfl)
theorem g326 : G e326 := r (c g69 (c g144 (c g217 (c g221 (c g321 (c g323 n)))))) (by kernel_rfl)
theorem g340 : G e340 := r (c g142 (c g144 (c g312 (c g315 (c g335 (c g337 (c g339 n))))))) (by kernel_rfl)
theorem g342 : G e342 := r (c g221 (c g315 (c g341 n))) (by kernel_rfl)
theorem g368 : G e368 := r (c g60 (c g63 (c g68 (c g69 (c g104 (c g108 (c g123 (c g144 (c g367 n))))))))) (by kernel_rfl)
theorem g548 : G e548 := r (c g291 (c g381 (c g384 (c g424 (c g432 (c g435 (c g437 (c g450 (c g455 (c g456 (c g479 (c g484 (c g485 (c g520 (c g525 (c g526 (c g547 n))))))))))))))))) (by kernel_rfl)
theorem g554 : G e554 := r (c g291 (c g435 (c g437 (c g450 (c g455 (c g456 (c g479 (c g484 (c g485 (c g520 (c g525 (c g526 (c g553 n))))))))))))) (by kernel_rfl)
theorem g606 : G e606 := r (c g474 (c g558 (c g584 (c g586 (c g588 (c g598 (c g599 (c g602 (c g604 n))))))))) (by kernel_rfl)
theorem g343 : G e343 := r (c g151 (c g152 (c g154 (c g156 (c g186 (c g198 (c g223 (c g225 (c g241 (c g261 (c g270 (c g272 (c g295 (c g303 (c g317 (c g319 (c g326 (c g333 (c g340 (c g342 n)))))))))))))))))))) (by kernel_rfl)
theorem g607 : G e607 := r (c g287 (c g291 (c g381 (c g384 (c g424 (c g432 (c g435 (c g606 n)))))))) (by kernel_rfl)
end Eng.Aw
end
