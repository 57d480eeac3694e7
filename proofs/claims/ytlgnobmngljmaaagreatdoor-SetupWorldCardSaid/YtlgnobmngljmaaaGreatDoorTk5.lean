/- Closed runs, printed by a program (gather); each by the kernel. -/
import Derived.Test.YtlgnobmngljmaaaGreatDoorTkDat
import Derived.Test.YtlgnobmngljmaaaGreatDoorTk1
import Derived.Test.YtlgnobmngljmaaaGreatDoorTk2
import Derived.Test.YtlgnobmngljmaaaGreatDoorTk3
import Derived.Test.YtlgnobmngljmaaaGreatDoorTk4
section
namespace Eng.Tk
open Go Go.Proofs
set_option maxRecDepth 1000000
variable [Env] [TokOk]
theorem g104 : G e104 := r (c g55 (c g58 (c g60 (c g62 (c g80 (c g82 (c g83 (c g85 (c g87 (c g91 (c g93 (c g103 n)))))))))))) (by kernel_rfl)
theorem g121 : G e121 := r (c g83 (c g93 (c g103 (c g105 (c g111 (c g118 (c g120 n))))))) (by kernel_rfl)
theorem g135 : G e135 := r (c g69 (c g76 (c g111 (c g118 (c g122 (c g134 n)))))) (by kernel_rfl)
theorem g143 : G e143 := r (c g69 (c g76 n)) (by kernel_rfl)
theorem g154 : G e154 := r (c g69 (c g76 n)) (by kernel_rfl)
theorem g195 : G e195 := r (c g194 n) (by kernel_rfl)
theorem g219 : G e219 := r (c g188 (c g205 (c g208 (c g211 (c g214 (c g218 n)))))) (by kernel_rfl)
theorem g255 : G e255 := r (c g185 (c g232 (c g248 (c g249 (c g250 (c g254 n)))))) (by kernel_rfl)
theorem g260 : G e260 := r (c g185 (c g207 (c g248 (c g250 n)))) (by kernel_rfl)
theorem g266 : G e266 := r (c g188 (c g207 (c g208 (c g211 n)))) (by kernel_rfl)
theorem g269 : G e269 := r (c g188 (c g205 (c g208 (c g211 (c g214 (c g254 n)))))) (by kernel_rfl)
theorem g276 : G e276 := r (c g205 (c g207 (c g208 (c g214 n)))) (by kernel_rfl)
theorem g279 : G e279 := r (c g278 n) (by kernel_rfl)
theorem g280 : G e280 := r (c g185 (c g218 (c g232 (c g248 (c g249 (c g250 n)))))) (by kernel_rfl)
theorem g284 : G e284 := r (c g207 (c g232 (c g248 (c g249 n)))) (by kernel_rfl)
theorem g302 : G e302 := r (c g194 n) (by kernel_rfl)
theorem g362 : G e362 := r (c g278 n) (by kernel_rfl)
theorem g476 : G e476 := r (c g185 (c g232 (c g248 n))) (by kernel_rfl)
theorem g479 : G e479 := r (c g185 (c g188 (c g478 n))) (by kernel_rfl)
theorem g506 : G e506 := r (c g194 n) (by kernel_rfl)
theorem g537 : G e537 := r (c g278 n) (by kernel_rfl)
theorem g588 : G e588 := r (c g185 (c g232 (c g248 n))) (by kernel_rfl)
theorem g590 : G e590 := r (c g185 (c g188 (c g478 n))) (by kernel_rfl)
theorem g656 : G e656 := r (c g205 (c g232 (c g478 n))) (by kernel_rfl)
theorem g658 : G e658 := r (c g188 (c g205 (c g208 n))) (by kernel_rfl)
theorem g728 : G e728 := r (c g173 (c g175 (c g232 (c g278 (c g629 (c g631 (c g643 (c g655 (c g672 (c g674 (c g720 n))))))))))) (by kernel_rfl)
theorem g899 : G e899 := r (c g173 (c g175 (c g185 (c g188 (c g194 (c g874 (c g879 (c g883 n)))))))) (by kernel_rfl)
theorem g939 : G e939 := r (c g173 (c g175 (c g205 (c g232 (c g278 (c g672 (c g674 (c g856 (c g874 (c g879 (c g883 n))))))))))) (by kernel_rfl)
end Eng.Tk
end
