/- Closed runs, printed by a program (gather); each by the kernel. -/
import Derived.Test.YtkkodaemmgpgfaaGreatDoorAwDat
section
namespace Eng.Aw
open Go Go.Proofs
set_option maxRecDepth 1000000
theorem g9 : Gives K3 285 a9 r9 := run1 (es := []) trivial (by kernel_rfl)
theorem g11 : Gives K3 135 a11 r11 := run1 (es := []) trivial (by kernel_rfl)
theorem g12 : Gives K3 135 a12 r12 := run1 (es := []) trivial (by kernel_rfl)
theorem g18 : Gives K3 285 a18 r18 := run1 (es := []) trivial (by kernel_rfl)
theorem g19 : Gives K3 135 a19 r19 := run1 (es := []) trivial (by kernel_rfl)
theorem g23 : Gives K3 285 a23 r23 := run1 (es := []) trivial (by kernel_rfl)
theorem g24 : Gives K3 135 a24 r24 := run1 (es := []) trivial (by kernel_rfl)
theorem g26 : Gives K3 285 a26 r26 := run1 (es := []) trivial (by kernel_rfl)
theorem g30 : Gives K3 99 a30 r30 := run1 (es := []) trivial (by kernel_rfl)
theorem g32 : Gives K3 99 a32 r32 := run1 (es := []) trivial (by kernel_rfl)
theorem g33 : Gives K3 128 a33 r33 := run1 (es := []) trivial (by kernel_rfl)
theorem g38 : Gives K3 99 a38 r38 := run1 (es := []) trivial (by kernel_rfl)
theorem g44 : Gives K3 101 a44 r44 := run1 (es := []) trivial (by kernel_rfl)
theorem g46 : Gives K3 366 a46 r46 := run1 (es := []) trivial (by kernel_rfl)
theorem g50 : Gives K3 314 a50 r50 := run1 (es := []) trivial (by kernel_rfl)
theorem g61 : Gives K3 314 a61 r61 := run1 (es := []) trivial (by kernel_rfl)
theorem g64 : Gives K3 262 a64 r64 := run1 (es := []) trivial (by kernel_rfl)
theorem g67 : Gives K3 261 a67 r67 := run1 (es := []) trivial (by kernel_rfl)
theorem g73 : Gives K3 99 a73 r73 := run1 (es := []) trivial (by kernel_rfl)
theorem g76 : Gives K3 99 a76 r76 := run1 (es := []) trivial (by kernel_rfl)
theorem g88 : Gives K3 262 a88 r88 := run1 (es := []) trivial (by kernel_rfl)
theorem g89 : Gives K3 261 a89 r89 := run1 (es := []) trivial (by kernel_rfl)
theorem g105 : Gives K3 262 a105 r105 := run1 (es := []) trivial (by kernel_rfl)
theorem g107 : Gives K3 261 a107 r107 := run1 (es := []) trivial (by kernel_rfl)
theorem g119 : Gives K3 262 a119 r119 := run1 (es := []) trivial (by kernel_rfl)
theorem g153 : Gives K3 298 a153 r153 := run1 (es := []) trivial (by kernel_rfl)
theorem g155 : Gives K3 298 a155 r155 := run1 (es := []) trivial (by kernel_rfl)
theorem g158 : Gives K3 296 a158 r158 := run1 (es := []) trivial (by kernel_rfl)
end Eng.Aw
end
