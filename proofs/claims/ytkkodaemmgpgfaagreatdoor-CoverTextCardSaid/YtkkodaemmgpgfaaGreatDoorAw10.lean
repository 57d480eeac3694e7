/- Closed runs, printed by a program (gather); each by the kernel. -/
import Derived.Test.YtkkodaemmgpgfaaGreatDoorAwDat
import Derived.Test.YtkkodaemmgpgfaaGreatDoorAw1
import Derived.Test.YtkkodaemmgpgfaaGreatDoorAw8
import Derived.Test.YtkkodaemmgpgfaaGreatDoorAw9
section
namespace Eng.Aw
open Go Go.Proofs
set_option maxRecDepth 1000000
theorem g494 : G e494 := r (c g386 (c g390 (c g459 (c g488 n)))) (by kernel_rfl)
theorem g497 : G e497 := r (c g390 (c g459 (c g488 n))) (by kernel_rfl)
theorem g525 : G e525 := r (c g485 n) (by kernel_rfl)
theorem g547 : G e547 := r (c g381 (c g435 (c g456 (c g485 (c g527 (c g534 (c g535 (c g537 (c g540 (c g542 (c g544 (c g545 (c g546 n))))))))))))) (by kernel_rfl)
theorem g553 : G e553 := r (c g435 (c g456 (c g485 (c g527 (c g540 (c g544 (c g545 (c g546 (c g551 (c g552 n)))))))))) (by kernel_rfl)
theorem g574 : G e574 := r (c g399 (c g573 n)) (by kernel_rfl)
theorem g588 : G e588 := r (c g386 (c g459 (c g558 (c g559 (c g585 n))))) (by kernel_rfl)
theorem g602 : G e602 := r (c g389 (c g558 n)) (by kernel_rfl)
theorem g604 : G e604 := r (c g389 (c g488 n)) (by kernel_rfl)
theorem g69 : G e69 := r (c g60 (c g63 (c g68 n))) (by kernel_rfl)
theorem g86 : G e86 := r (c g85 n) (by kernel_rfl)
theorem g93 : G e93 := r (c g63 (c g68 (c g87 (c g90 (c g91 (c g92 n)))))) (by kernel_rfl)
theorem g110 : G e110 := r (c g87 (c g104 (c g108 n))) (by kernel_rfl)
theorem g123 : G e123 := r (c g60 (c g104 (c g108 (c g120 (c g121 (c g122 n)))))) (by kernel_rfl)
theorem g126 : G e126 := r (c g60 (c g120 (c g122 n))) (by kernel_rfl)
theorem g132 : G e132 := r (c g63 (c g90 (c g91 (c g120 n)))) (by kernel_rfl)
theorem g135 : G e135 := r (c g63 (c g87 (c g90 (c g91 (c g92 (c g108 n)))))) (by kernel_rfl)
theorem g137 : G e137 := r (c g63 (c g68 (c g104 n))) (by kernel_rfl)
theorem g139 : G e139 := r (c g60 (c g68 (c g87 n))) (by kernel_rfl)
theorem g141 : G e141 := r (c g140 n) (by kernel_rfl)
theorem g142 : G e142 := r (c g68 (c g87 (c g104 n))) (by kernel_rfl)
theorem g144 : G e144 := r (c g60 (c g68 (c g104 (c g120 (c g121 (c g122 n)))))) (by kernel_rfl)
theorem g147 : G e147 := r (c g63 (c g104 (c g108 n))) (by kernel_rfl)
theorem g148 : G e148 := r (c g90 (c g104 (c g120 (c g121 n)))) (by kernel_rfl)
theorem g154 : G e154 := r (c g87 (c g104 (c g108 n))) (by kernel_rfl)
theorem g359 : G e359 := r (c g60 (c g104 (c g120 n))) (by kernel_rfl)
theorem g365 : G e365 := r (c g50 (c g60 (c g63 (c g68 n)))) (by kernel_rfl)
theorem g421 : G e421 := r (c g398 (c g399 (c g400 (c g405 (c g417 (c g420 n)))))) (by kernel_rfl)
theorem g447 : G e447 := r (c g398 (c g399 (c g400 (c g417 (c g420 (c g442 (c g446 n))))))) (by kernel_rfl)
theorem g468 : G e468 := r (c g399 (c g400 (c g405 (c g442 (c g463 (c g466 n)))))) (by kernel_rfl)
theorem g478 : G e478 := r (c g385 (c g386 (c g387 (c g388 (c g459 (c g474 n)))))) (by kernel_rfl)
theorem g489 : G e489 := r (c g399 (c g442 (c g446 (c g463 (c g466 n))))) (by kernel_rfl)
theorem g517 : G e517 := r (c g398 (c g420 (c g442 (c g446 (c g502 (c g505 (c g513 n))))))) (by kernel_rfl)
theorem g582 : G e582 := r (c g399 (c g412 (c g569 (c g574 (c g577 n))))) (by kernel_rfl)
theorem g596 : G e596 := r (c g502 (c g513 (c g569 (c g574 (c g592 n))))) (by kernel_rfl)
theorem g70 : G e70 := r (c g69 n) (by kernel_rfl)
theorem g94 : G e94 := r (c g93 n) (by kernel_rfl)
theorem g111 : G e111 := r (c g35 (c g72 (c g74 (c g77 (c g96 (c g99 (c g102 (c g110 n)))))))) (by kernel_rfl)
theorem g125 : G e125 := r (c g35 (c g36 (c g39 (c g96 (c g114 (c g117 (c g123 n))))))) (by kernel_rfl)
end Eng.Aw
end
