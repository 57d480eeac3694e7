/- Closed runs, printed by a program (gather); each by the kernel. -/
import Derived.Test.YtbehlcfelmbmlaaGreatDoorAwDat
import Derived.Test.YtbehlcfelmbmlaaGreatDoorAw1
section
namespace Eng.Aw
open Go Go.Proofs
set_option maxRecDepth 1000000
theorem g378 : G e378 := r (c SZ (c g321 (c g337 (c g343 (c g348 (c g354 (c g359 (c g365 n)))))))) (by kernel_rfl)
theorem g388 : G e388 := r (c S8 n) (by kernel_rfl)
theorem g401 : G e401 := r (c S8 n) (by kernel_rfl)
theorem g59 : G e59 := r (c g24 (c g34 (c g44 (c g57 n)))) (by kernel_rfl)
theorem g78 : G e78 := r (c g24 (c g67 (c g76 n))) (by kernel_rfl)
theorem g222 : G e222 := r (c SY (c g178 (c g198 (c g220 n)))) (by kernel_rfl)
theorem g255 : G e255 := r (c SY (c g236 (c g254 n))) (by kernel_rfl)
theorem g271 : G e271 := r (c g178 (c g198 (c g220 n))) (by kernel_rfl)
theorem g278 : G e278 := r (c g236 (c g254 n)) (by kernel_rfl)
theorem g303 : G e303 := r (c Ba n) (by kernel_rfl)
theorem g393 : G e393 := r (c S8 (c g388 n)) (by kernel_rfl)
theorem g89 : G e89 := r (c g15 (c g16 (c g24 (c g34 (c g44 (c g57 (c g59 (c g67 (c g76 (c g78 n)))))))))) (by kernel_rfl)
theorem g279 : G e279 := r (c g15 (c g16 (c g59 (c g78 (c g100 (c g153 (c g222 (c g255 (c g264 (c g271 (c g278 n))))))))))) (by kernel_rfl)
theorem g306 : G e306 := r (c Ba (c g303 n)) (by kernel_rfl)
theorem g311 : G e311 := r (c Ba (c g303 n)) (by kernel_rfl)
theorem g402 : G e402 := r (c g393 (c g401 n)) (by kernel_rfl)
theorem g313 : G e313 := r (c g287 (c g306 (c g311 n))) (by kernel_rfl)
theorem g379 : G e379 := r (c g291 (c g313 (c g366 (c g378 n)))) (by kernel_rfl)
theorem g406 : G e406 := r (c g89 (c g279 (c g379 (c S8 (c g388 (c g402 n)))))) (by kernel_rfl)
end Eng.Aw
end
