/- Closed runs, printed by a program (gather); each by the kernel. -/
import Derived.Test.YtlgnobmngljmaaaGreatDoorTkDat
import Derived.Test.YtlgnobmngljmaaaGreatDoorTk1
import Derived.Test.YtlgnobmngljmaaaGreatDoorTk2
import Derived.Test.YtlgnobmngljmaaaGreatDoorTk3
import Derived.Test.YtlgnobmngljmaaaGreatDoorTk4
import Derived.Test.YtlgnobmngljmaaaGreatDoorTk5
section
namespace Eng.Tk
open Go Go.Proofs
set_option maxRecDepth 1000000
variable [Env] [TokOk]
theorem g982 : G e982 := r (c g173 (c g175 (c g185 (c g188 (c g193 (c g205 (c g208 (c g211 (c g219 (c g232 (c g588 (c g590 (c g622 (c g624 (c g636 (c g638 (c g656 (c g658 (c g672 (c g674 (c g765 (c g976 n)))))))))))))))))))))) (by kernel_rfl)
theorem g1007 : G e1007 := r (c g173 (c g175 (c g187 (c g188 (c g205 (c g208 (c g211 (c g214 (c g219 (c g672 (c g674 (c g685 (c g687 (c g696 (c g698 (c g799 (c g805 n))))))))))))))))) (by kernel_rfl)
theorem g1041 : G e1041 := r (c g173 (c g175 (c g188 (c g205 (c g208 (c g211 (c g214 (c g219 (c g622 (c g624 (c g636 (c g638 (c g672 (c g674 (c g738 (c g739 (c g831 (c g835 (c g1034 n))))))))))))))))))) (by kernel_rfl)
theorem g1069 : G e1069 := r (c g173 (c g185 (c g188 (c g205 (c g232 (c g588 (c g590 (c g622 (c g624 (c g629 (c g631 (c g636 (c g638 (c g643 (c g656 (c g658 (c g1061 (c g1066 (c g1068 n))))))))))))))))))) (by kernel_rfl)
theorem g1092 : G e1092 := r (c g173 (c g175 (c g185 (c g188 (c g194 (c g205 (c g232 (c g588 (c g590 (c g629 (c g631 (c g643 (c g656 (c g658 (c g672 (c g674 (c g1066 (c g1068 (c g1073 n))))))))))))))))))) (by kernel_rfl)
theorem g1111 : G e1111 := r (c g173 (c g185 (c g188 (c g205 (c g232 (c g588 (c g590 (c g629 (c g631 (c g643 (c g656 (c g658 (c g685 (c g687 (c g696 (c g698 (c g1061 (c g1066 (c g1068 n))))))))))))))))))) (by kernel_rfl)
theorem g1134 : G e1134 := r (c g173 (c g175 (c g185 (c g188 (c g205 (c g232 (c g278 (c g588 (c g590 (c g629 (c g631 (c g643 (c g656 (c g658 (c g672 (c g674 (c g1066 (c g1068 (c g1123 n))))))))))))))))))) (by kernel_rfl)
end Eng.Tk
end
