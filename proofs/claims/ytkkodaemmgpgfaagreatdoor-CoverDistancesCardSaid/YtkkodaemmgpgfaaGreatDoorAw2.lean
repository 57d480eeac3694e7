/- Closed runs, printed by a program (gather); each by the kernel. -/
import Derived.Test.YtkkodaemmgpgfaaGreatDoorAwDat
section
namespace Eng.Aw
open Go Go.Proofs
set_option maxRecDepth 1000000
theorem g163 : Gives K3 379 a163 r163 := run1 (es := []) trivial (by kernel_rfl)
theorem g169 : Gives K3 74 a169 r169 := run1 (es := []) trivial (by kernel_rfl)
theorem g173 : Gives K3 74 a173 r173 := run1 (es := []) trivial (by kernel_rfl)
theorem g185 : Gives K3 300 a185 r185 := run1 (es := []) trivial (by kernel_rfl)
theorem g190 : Gives K3 296 a190 r190 := run1 (es := []) trivial (by kernel_rfl)
end Eng.Aw
end
