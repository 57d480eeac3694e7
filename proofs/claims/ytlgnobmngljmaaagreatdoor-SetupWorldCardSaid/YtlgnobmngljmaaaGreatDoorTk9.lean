/- Closed runs, printed by a program (gather); each by the kernel. -/
import Derived.Test.YtlgnobmngljmaaaGreatDoorTkDat
import Derived.Test.YtlgnobmngljmaaaGreatDoorTk1
import Derived.Test.YtlgnobmngljmaaaGreatDoorTk2
import Derived.Test.YtlgnobmngljmaaaGreatDoorTk3
import Derived.Test.YtlgnobmngljmaaaGreatDoorTk4
import Derived.Test.YtlgnobmngljmaaaGreatDoorTk5
import Derived.Test.YtlgnobmngljmaaaGreatDoorTk6
section
namespace Eng.Tk
open Go Go.Proofs
set_option maxRecDepth 1000000
variable [Env] [TokOk]
theorem g1153 : G e1153 := r (c g173 (c g185 (c g188 (c g205 (c g232 (c g588 (c g590 (c g622 (c g624 (c g629 (c g631 (c g636 (c g638 (c g643 (c g656 (c g658 (c g738 (c g739 (c g1061 (c g1066 (c g1068 n))))))))))))))))))))) (by kernel_rfl)
theorem g1165 : G e1165 := r (c g185 (c g232 (c g476 (c g479 (c g650 (c g655 (c g1162 (c g1163 (c g1164 n))))))))) (by kernel_rfl)
theorem g1176 : G e1176 := r (c g173 (c g175 (c g185 (c g194 (c g232 (c g476 (c g479 (c g629 (c g631 (c g643 (c g655 (c g663 (c g672 (c g674 (c g1163 (c g1164 n)))))))))))))))) (by kernel_rfl)
theorem g1186 : G e1186 := r (c g185 (c g232 (c g476 (c g479 (c g650 (c g655 (c g1163 (c g1164 (c g1185 n))))))))) (by kernel_rfl)
theorem g1197 : G e1197 := r (c g173 (c g175 (c g185 (c g232 (c g278 (c g476 (c g479 (c g629 (c g631 (c g643 (c g655 (c g672 (c g674 (c g720 (c g1163 (c g1164 n)))))))))))))))) (by kernel_rfl)
theorem g1207 : G e1207 := r (c g173 (c g185 (c g232 (c g476 (c g479 (c g622 (c g624 (c g636 (c g638 (c g643 (c g650 (c g655 (c g735 (c g738 (c g739 (c g1163 (c g1164 n))))))))))))))))) (by kernel_rfl)
theorem g1222 : G e1222 := r (c g175 (c g185 (c g188 (c g193 (c g205 (c g232 (c g248 (c g250 (c g280 (c g476 (c g479 (c g672 (c g674 (c g752 (c g758 (c g765 (c g770 (c g1163 (c g1164 n))))))))))))))))))) (by kernel_rfl)
end Eng.Tk
end
