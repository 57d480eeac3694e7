/- Closed runs, printed by a program (gather); each by the kernel. -/
import Derived.Test.YtlgnobmngljmaaaGreatDoorTkDat
import Derived.Test.YtlgnobmngljmaaaGreatDoorTk1
section
namespace Eng.Tk
open Go Go.Proofs
set_option maxRecDepth 1000000
variable [Env] [TokOk]
theorem g17 : G e17 := r (c g10 n) (by kernel_rfl)
theorem g27 : G e27 := r (c g23 n) (by kernel_rfl)
theorem g35 : G e35 := r (c g31 n) (by kernel_rfl)
theorem g50 : G e50 := r (c g43 (c g46 n)) (by kernel_rfl)
theorem g57 : G e57 := r (c g53 (c g55 n)) (by kernel_rfl)
theorem g62 : G e62 := r (c g55 (c g58 (c g60 n))) (by kernel_rfl)
theorem g69 : G e69 := r (c g53 (c g67 (c g68 n))) (by kernel_rfl)
theorem g78 : G e78 := r (c g53 (c g55 (c g77 n))) (by kernel_rfl)
theorem g87 : G e87 := r (c g55 (c g58 (c g60 (c g83 (c g85 n))))) (by kernel_rfl)
theorem g93 : G e93 := r (c g58 (c g83 (c g85 n))) (by kernel_rfl)
theorem g111 : G e111 := r (c g67 (c g105 (c g110 n))) (by kernel_rfl)
theorem g119 : G e119 := r (c g77 (c g83 (c g105 n))) (by kernel_rfl)
theorem g122 : G e122 := r (c g53 (c g67 (c g68 (c g105 (c g110 n))))) (by kernel_rfl)
theorem g133 : G e133 := r (c g53 (c g67 (c g68 (c g105 (c g110 n))))) (by kernel_rfl)
theorem g146 : G e146 := r (c g55 (c g77 (c g105 n))) (by kernel_rfl)
theorem g149 : G e149 := r (c g55 (c g105 n)) (by kernel_rfl)
theorem g169 : G e169 := r (c g158 (c g159 (c g162 (c g165 n)))) (by kernel_rfl)
theorem g175 : G e175 := r (c g174 n) (by kernel_rfl)
theorem g185 : G e185 := r (c g184 n) (by kernel_rfl)
theorem g188 : G e188 := r (c g187 n) (by kernel_rfl)
theorem g193 : G e193 := r (c g191 n) (by kernel_rfl)
theorem g205 : G e205 := r (c g187 n) (by kernel_rfl)
theorem g207 : G e207 := r (c g191 n) (by kernel_rfl)
theorem g218 : G e218 := r (c g191 n) (by kernel_rfl)
theorem g232 : G e232 := r (c g184 n) (by kernel_rfl)
theorem g236 : G e236 := r (c g191 n) (by kernel_rfl)
theorem g254 : G e254 := r (c g191 n) (by kernel_rfl)
theorem g300 : G e300 := r (c g159 (c g297 n)) (by kernel_rfl)
theorem g327 : G e327 := r (c g158 (c g297 (c g323 n))) (by kernel_rfl)
theorem g344 : G e344 := r (c g159 (c g297 n)) (by kernel_rfl)
theorem g357 : G e357 := r (c g162 n) (by kernel_rfl)
end Eng.Tk
end
