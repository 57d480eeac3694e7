/- Closed runs, printed by a program (gather); each by the kernel. -/
import Derived.Test.YtlgnobmngljmaaaGreatDoorTkDat
import Derived.Test.YtlgnobmngljmaaaGreatDoorTk1
import Derived.Test.YtlgnobmngljmaaaGreatDoorTk2
import Derived.Test.YtlgnobmngljmaaaGreatDoorTk3
import Derived.Test.YtlgnobmngljmaaaGreatDoorTk4
import Derived.Test.YtlgnobmngljmaaaGreatDoorTk5
section
namespace Eng.Tk
open Go Go.Proofs
set_option maxRecDepth 1000000
variable [Env] [TokOk]
theorem g782 : G e782 := r (c g175 (c g185 (c g188 (c g193 (c g205 (c g232 (c g248 (c g250 (c g280 (c g588 (c g590 (c g656 (c g658 (c g672 (c g674 (c g752 (c g758 (c g765 (c g770 n))))))))))))))))))) (by kernel_rfl)
theorem g810 : G e810 := r (c g175 (c g184 (c g185 (c g232 (c g248 (c g249 (c g250 (c g280 (c g786 (c g799 (c g805 n))))))))))) (by kernel_rfl)
theorem g850 : G e850 := r (c g175 (c g185 (c g188 (c g193 (c g205 (c g232 (c g248 (c g249 (c g250 (c g280 (c g588 (c g590 (c g656 (c g658 (c g672 (c g674 (c g818 (c g824 (c g831 (c g835 (c g840 n))))))))))))))))))))) (by kernel_rfl)
theorem g888 : G e888 := r (c g185 (c g188 (c g205 (c g232 (c g588 (c g590 (c g656 (c g658 (c g852 (c g856 (c g862 (c g866 (c g868 (c g875 (c g879 (c g883 (c g884 (c g886 n)))))))))))))))))) (by kernel_rfl)
theorem g920 : G e920 := r (c g185 (c g188 (c g205 (c g232 (c g588 (c g590 (c g656 (c g658 (c g856 (c g866 (c g868 (c g879 (c g883 (c g884 (c g886 (c g901 (c g909 (c g917 n)))))))))))))))))) (by kernel_rfl)
theorem g960 : G e960 := r (c g185 (c g188 (c g205 (c g232 (c g588 (c g590 (c g656 (c g658 (c g856 (c g866 (c g868 (c g879 (c g883 (c g884 (c g886 (c g941 (c g949 (c g957 n)))))))))))))))))) (by kernel_rfl)
end Eng.Tk
end
