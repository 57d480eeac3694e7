/- Closed runs, printed by a program (gather); each by the kernel. -/
import Derived.Test.YtlgnobmngljmaaaGreatDoorTkDat
import Derived.Test.YtlgnobmngljmaaaGreatDoorTk1
import Derived.Test.YtlgnobmngljmaaaGreatDoorTk2
import Derived.Test.YtlgnobmngljmaaaGreatDoorTk3
import Derived.Test.YtlgnobmngljmaaaGreatDoorTk4
import Derived.Test.YtlgnobmngljmaaaGreatDoorTk5
import Derived.Test.YtlgnobmngljmaaaGreatDoorTk6
section
namespace Eng.Tk
open Go Go.Proofs
set_option maxRecDepth 1000000
variable [Env] [TokOk]
theorem g1232 : G e1232 := r (c g175 (c g184 (c g185 (c g232 (c g248 (c g249 (c g250 (c g280 (c g786 (c g799 (c g805 n))))))))))) (by kernel_rfl)
theorem g1250 : G e1250 := r (c g175 (c g185 (c g188 (c g193 (c g205 (c g232 (c g248 (c g249 (c g250 (c g280 (c g476 (c g479 (c g672 (c g674 (c g818 (c g824 (c g831 (c g835 (c g840 (c g1163 (c g1164 n))))))))))))))))))))) (by kernel_rfl)
theorem g1264 : G e1264 := r (c g185 (c g188 (c g205 (c g232 (c g476 (c g479 (c g852 (c g856 (c g862 (c g866 (c g868 (c g875 (c g879 (c g883 (c g1163 (c g1164 (c g1260 (c g1262 n)))))))))))))))))) (by kernel_rfl)
theorem g1282 : G e1282 := r (c g185 (c g188 (c g205 (c g232 (c g476 (c g479 (c g856 (c g866 (c g868 (c g879 (c g883 (c g901 (c g909 (c g917 (c g1163 (c g1164 (c g1260 (c g1262 n)))))))))))))))))) (by kernel_rfl)
theorem g1304 : G e1304 := r (c g185 (c g188 (c g205 (c g232 (c g476 (c g479 (c g856 (c g866 (c g868 (c g879 (c g883 (c g941 (c g949 (c g957 (c g1163 (c g1164 (c g1260 (c g1262 n)))))))))))))))))) (by kernel_rfl)
theorem g1315 : G e1315 := r (c g173 (c g175 (c g185 (c g188 (c g193 (c g205 (c g208 (c g211 (c g219 (c g232 (c g476 (c g479 (c g622 (c g624 (c g636 (c g638 (c g672 (c g674 (c g765 (c g976 (c g1163 (c g1164 n)))))))))))))))))))))) (by kernel_rfl)
theorem g1328 : G e1328 := r (c g173 (c g175 (c g187 (c g188 (c g205 (c g208 (c g211 (c g214 (c g219 (c g672 (c g674 (c g685 (c g687 (c g696 (c g698 (c g799 (c g805 n))))))))))))))))) (by kernel_rfl)
end Eng.Tk
end
