/- Closed runs, printed by a program (gather); each by the kernel. -/
import Derived.Test.YtlgnobmngljmaaaGreatDoorTkDat
import Derived.Test.YtlgnobmngljmaaaGreatDoorTk1
import Derived.Test.YtlgnobmngljmaaaGreatDoorTk2
import Derived.Test.YtlgnobmngljmaaaGreatDoorTk3
import Derived.Test.YtlgnobmngljmaaaGreatDoorTk4
import Derived.Test.YtlgnobmngljmaaaGreatDoorTk5
import Derived.Test.YtlgnobmngljmaaaGreatDoorTk6
section
namespace Eng.Tk
open Go Go.Proofs
set_option maxRecDepth 1000000
variable [Env] [TokOk]
theorem g1347 : G e1347 := r (c g173 (c g175 (c g185 (c g188 (c g193 (c g205 (c g208 (c g211 (c g214 (c g219 (c g232 (c g476 (c g479 (c g622 (c g624 (c g636 (c g638 (c g672 (c g674 (c g738 (c g739 (c g831 (c g835 (c g1034 (c g1163 (c g1164 n)))))))))))))))))))))))))) (by kernel_rfl)
theorem g1357 : G e1357 := r (c g173 (c g185 (c g188 (c g205 (c g232 (c g476 (c g479 (c g622 (c g624 (c g629 (c g631 (c g636 (c g638 (c g643 (c g1061 (c g1066 (c g1068 (c g1163 (c g1164 n))))))))))))))))))) (by kernel_rfl)
theorem g1369 : G e1369 := r (c g173 (c g175 (c g185 (c g188 (c g194 (c g205 (c g232 (c g476 (c g479 (c g629 (c g631 (c g643 (c g672 (c g674 (c g1066 (c g1068 (c g1073 (c g1163 (c g1164 n))))))))))))))))))) (by kernel_rfl)
theorem g1379 : G e1379 := r (c g173 (c g185 (c g188 (c g205 (c g232 (c g476 (c g479 (c g629 (c g631 (c g643 (c g685 (c g687 (c g696 (c g698 (c g1061 (c g1066 (c g1068 (c g1163 (c g1164 n))))))))))))))))))) (by kernel_rfl)
theorem g1391 : G e1391 := r (c g173 (c g175 (c g185 (c g188 (c g205 (c g232 (c g278 (c g476 (c g479 (c g629 (c g631 (c g643 (c g672 (c g674 (c g1066 (c g1068 (c g1123 (c g1163 (c g1164 n))))))))))))))))))) (by kernel_rfl)
theorem g1401 : G e1401 := r (c g173 (c g185 (c g188 (c g205 (c g232 (c g476 (c g479 (c g622 (c g624 (c g629 (c g631 (c g636 (c g638 (c g643 (c g738 (c g739 (c g1061 (c g1066 (c g1068 (c g1163 (c g1164 n))))))))))))))))))))) (by kernel_rfl)
theorem g286 : G e286 := r (c g185 (c g188 (c g195 (c g205 (c g220 (c g236 (c g238 (c g256 (c g261 (c g267 (c g269 (c g271 (c g273 (c g277 (c g279 (c g281 (c g283 (c g285 n)))))))))))))))))) (by kernel_rfl)
end Eng.Tk
end
