/- Closed runs, printed by a program (gather); each by the kernel. -/
import Derived.Test.YtlgnobmngljmaaaGreatDoorTkDat
import Derived.Test.YtlgnobmngljmaaaGreatDoorTk1
import Derived.Test.YtlgnobmngljmaaaGreatDoorTk2
import Derived.Test.YtlgnobmngljmaaaGreatDoorTk3
import Derived.Test.YtlgnobmngljmaaaGreatDoorTk4
import Derived.Test.YtlgnobmngljmaaaGreatDoorTk5
section
namespace Eng.Tk
open Go Go.Proofs
set_option maxRecDepth 1000000
variable [Env] [TokOk]
theorem g1163 : G e1163 := r (c g205 (c g232 (c g478 n))) (by kernel_rfl)
theorem g1164 : G e1164 := r (c g188 (c g205 (c g208 n))) (by kernel_rfl)
theorem g1270 : G e1270 := r (c g173 (c g175 (c g185 (c g188 (c g194 (c g874 (c g879 (c g883 n)))))))) (by kernel_rfl)
theorem g1292 : G e1292 := r (c g173 (c g175 (c g205 (c g232 (c g278 (c g672 (c g674 (c g856 (c g874 (c g879 (c g883 n))))))))))) (by kernel_rfl)
theorem g220 : G e220 := r (c g219 n) (by kernel_rfl)
theorem g256 : G e256 := r (c g255 n) (by kernel_rfl)
theorem g261 : G e261 := r (c g260 n) (by kernel_rfl)
theorem g267 : G e267 := r (c g266 n) (by kernel_rfl)
theorem g277 : G e277 := r (c g276 n) (by kernel_rfl)
theorem g281 : G e281 := r (c g280 n) (by kernel_rfl)
theorem g285 : G e285 := r (c g284 n) (by kernel_rfl)
theorem g304 : G e304 := r (c g182 (c g194 (c g266 (c g302 n)))) (by kernel_rfl)
theorem g306 : G e306 := r (c g219 n) (by kernel_rfl)
theorem g330 : G e330 := r (c g179 (c g194 (c g260 (c g302 n)))) (by kernel_rfl)
theorem g333 : G e333 := r (c g280 n) (by kernel_rfl)
theorem g364 : G e364 := r (c g227 (c g276 (c g278 (c g362 n)))) (by kernel_rfl)
theorem g421 : G e421 := r (c g230 (c g278 (c g284 (c g362 n)))) (by kernel_rfl)
theorem g507 : G e507 := r (c g175 (c g177 (c g194 (c g260 (c g506 n))))) (by kernel_rfl)
theorem g509 : G e509 := r (c g280 n) (by kernel_rfl)
theorem g520 : G e520 := r (c g175 (c g177 (c g194 (c g266 (c g506 n))))) (by kernel_rfl)
theorem g522 : G e522 := r (c g219 n) (by kernel_rfl)
theorem g538 : G e538 := r (c g230 (c g278 (c g284 (c g537 n)))) (by kernel_rfl)
theorem g558 : G e558 := r (c g227 (c g276 (c g278 (c g537 n)))) (by kernel_rfl)
theorem g659 : G e659 := r (c g173 (c g185 (c g232 (c g588 (c g590 (c g622 (c g624 (c g629 (c g631 (c g636 (c g638 (c g643 (c g650 (c g655 (c g656 (c g658 n)))))))))))))))) (by kernel_rfl)
theorem g683 : G e683 := r (c g173 (c g175 (c g185 (c g194 (c g232 (c g588 (c g590 (c g629 (c g631 (c g643 (c g655 (c g656 (c g658 (c g663 (c g672 (c g674 n)))))))))))))))) (by kernel_rfl)
theorem g708 : G e708 := r (c g185 (c g232 (c g588 (c g590 (c g650 (c g655 (c g656 (c g658 (c g706 n))))))))) (by kernel_rfl)
theorem g729 : G e729 := r (c g185 (c g232 (c g588 (c g590 (c g655 (c g656 (c g658 (c g720 (c g728 n))))))))) (by kernel_rfl)
theorem g750 : G e750 := r (c g173 (c g185 (c g232 (c g588 (c g590 (c g622 (c g624 (c g636 (c g638 (c g643 (c g650 (c g655 (c g656 (c g658 (c g735 (c g738 (c g739 n))))))))))))))))) (by kernel_rfl)
end Eng.Tk
end
