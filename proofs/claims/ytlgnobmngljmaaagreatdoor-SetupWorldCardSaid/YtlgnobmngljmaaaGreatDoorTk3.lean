/- Closed runs, printed by a program (gather); each by the kernel. -/
import Derived.Test.YtlgnobmngljmaaaGreatDoorTkDat
import Derived.Test.YtlgnobmngljmaaaGreatDoorTk1
section
namespace Eng.Tk
open Go Go.Proofs
set_option maxRecDepth 1000000
variable [Env] [TokOk]
theorem g391 : G e391 := r (c g225 n) (by kernel_rfl)
theorem g404 : G e404 := r (c g162 n) (by kernel_rfl)
theorem g417 : G e417 := r (c g165 (c g323 n)) (by kernel_rfl)
theorem g434 : G e434 := r (c g158 (c g297 (c g323 n))) (by kernel_rfl)
theorem g455 : G e455 := r (c g165 (c g323 n)) (by kernel_rfl)
theorem g468 : G e468 := r (c g295 (c g370 (c g409 n))) (by kernel_rfl)
theorem g586 : G e586 := r (c g399 (c g441 (c g517 (c g532 n)))) (by kernel_rfl)
theorem g655 : G e655 := r (c g191 n) (by kernel_rfl)
theorem g663 : G e663 := r (c g650 n) (by kernel_rfl)
theorem g706 : G e706 := r (c g173 (c g629 (c g631 (c g643 (c g685 (c g687 (c g696 (c g698 n)))))))) (by kernel_rfl)
theorem g720 : G e720 := r (c g650 n) (by kernel_rfl)
theorem g735 : G e735 := r (c g629 (c g631 n)) (by kernel_rfl)
theorem g752 : G e752 := r (c g173 (c g622 (c g624 n))) (by kernel_rfl)
theorem g758 : G e758 := r (c g184 n) (by kernel_rfl)
theorem g765 : G e765 := r (c g191 n) (by kernel_rfl)
theorem g770 : G e770 := r (c g636 (c g638 n)) (by kernel_rfl)
theorem g786 : G e786 := r (c g173 (c g685 (c g687 n))) (by kernel_rfl)
theorem g799 : G e799 := r (c g191 n) (by kernel_rfl)
theorem g805 : G e805 := r (c g191 n) (by kernel_rfl)
theorem g818 : G e818 := r (c g173 (c g636 (c g638 n))) (by kernel_rfl)
theorem g824 : G e824 := r (c g184 n) (by kernel_rfl)
theorem g831 : G e831 := r (c g191 n) (by kernel_rfl)
theorem g835 : G e835 := r (c g191 n) (by kernel_rfl)
end Eng.Tk
end
