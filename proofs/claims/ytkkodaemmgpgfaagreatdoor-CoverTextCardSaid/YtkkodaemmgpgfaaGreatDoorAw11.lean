/- Closed runs, printed by a program (gather); each by the kernel. -/
import Derived.Test.YtkkodaemmgpgfaaGreatDoorAwDat
import Derived.Test.YtkkodaemmgpgfaaGreatDoorAw1
import Derived.Test.YtkkodaemmgpgfaaGreatDoorAw3
import Derived.Test.YtkkodaemmgpgfaaGreatDoorAw7
import Derived.Test.YtkkodaemmgpgfaaGreatDoorAw8
import Derived.Test.YtkkodaemmgpgfaaGreatDoorAw9
import Derived.Test.YtkkodaemmgpgfaaGreatDoorAw10
section
namespace Eng.Aw
open Go Go.Proofs
set_option maxRecDepth 1000000
theorem g127 : G e127 := r (c g126 n) (by kernel_rfl)
theorem g133 : G e133 := r (c g132 n) (by kernel_rfl)
theorem g149 : G e149 := r (c g148 n) (by kernel_rfl)
theorem g151 : G e151 := r (c g69 n) (by kernel_rfl)
theorem g152 : G e152 := r (c g93 n) (by kernel_rfl)
theorem g156 : G e156 := r (c g123 n) (by kernel_rfl)
theorem g179 : G e179 := r (c g69 n) (by kernel_rfl)
theorem g180 : G e180 := r (c g69 (c g132 n)) (by kernel_rfl)
theorem g182 : G e182 := r (c g93 (c g132 n)) (by kernel_rfl)
theorem g183 : G e183 := r (c g93 n) (by kernel_rfl)
theorem g198 : G e198 := r (c g69 (c g142 (c g191 (c g195 n)))) (by kernel_rfl)
theorem g216 : G e216 := r (c g69 (c g126 n)) (by kernel_rfl)
theorem g219 : G e219 := r (c g126 (c g144 n)) (by kernel_rfl)
theorem g220 : G e220 := r (c g144 n) (by kernel_rfl)
theorem g254 : G e254 := r (c g93 (c g140 n)) (by kernel_rfl)
theorem g257 : G e257 := r (c g142 n) (by kernel_rfl)
theorem g258 : G e258 := r (c g140 (c g142 n)) (by kernel_rfl)
theorem g270 : G e270 := r (c g93 (c g144 (c g264 (c g267 n)))) (by kernel_rfl)
theorem g295 : G e295 := r (c g69 (c g142 (c g274 (c g277 n)))) (by kernel_rfl)
theorem g311 : G e311 := r (c g142 (c g148 n)) (by kernel_rfl)
theorem g314 : G e314 := r (c g144 (c g148 n)) (by kernel_rfl)
theorem g333 : G e333 := r (c g93 (c g144 (c g327 (c g330 n)))) (by kernel_rfl)
theorem g424 : G e424 := r (c g386 (c g391 (c g393 (c g421 n)))) (by kernel_rfl)
theorem g450 : G e450 := r (c g389 (c g393 (c g441 (c g447 n)))) (by kernel_rfl)
theorem g470 : G e470 := r (c g391 (c g393 (c g459 (c g468 n)))) (by kernel_rfl)
theorem g491 : G e491 := r (c g393 (c g441 (c g488 (c g489 n)))) (by kernel_rfl)
theorem g519 : G e519 := r (c g390 (c g459 (c g488 (c g497 (c g517 n))))) (by kernel_rfl)
theorem g584 : G e584 := r (c g386 (c g389 (c g393 (c g558 (c g559 (c g560 (c g582 n))))))) (by kernel_rfl)
theorem g598 : G e598 := r (c g459 (c g488 (c g497 (c g558 (c g559 (c g560 (c g596 n))))))) (by kernel_rfl)
theorem g71 : G e71 := r (c g35 (c g36 (c g39 (c g40 (c g55 (c g58 (c g70 n))))))) (by kernel_rfl)
theorem g95 : G e95 := r (c g35 (c g40 (c g72 (c g74 (c g77 (c g82 (c g86 (c g94 n)))))))) (by kernel_rfl)
theorem g150 : G e150 := r (c g60 (c g63 (c g70 (c g87 (c g94 (c g108 (c g110 (c g123 (c g127 (c g133 (c g135 (c g137 (c g139 (c g141 (c g142 (c g144 (c g147 (c g149 n)))))))))))))))))) (by kernel_rfl)
end Eng.Aw
end
