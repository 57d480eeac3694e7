import Derived.Test.YtkaghlcopjaclaaGreatDoorSqDat
import Derived.Test.YtkaghlcopjaclaaGreatDoorSq1
section
namespace Eng.Sq
open Go Go.Proofs
set_option maxRecDepth 1000000
theorem g168:G e168:=r n (by kernel_rfl)
theorem oQ:G e169:=r n (by kernel_rfl)
theorem oR:G e170:=r n (by kernel_rfl)
theorem g178:G e178:=r n (by kernel_rfl)
theorem oS:G e182:=r n (by kernel_rfl)
theorem r8:G e190:=r n (by kernel_rfl)
theorem oT:G e206:=r n (by kernel_rfl)
theorem r9:G e213:=r n (by kernel_rfl)
theorem g220:G e220:=r n (by kernel_rfl)
theorem iF:G e225:=r n (by kernel_rfl)
theorem oU:G e242:=r n (by kernel_rfl)
theorem g266:G e266:=r n (by kernel_rfl)
theorem g296:G e296:=r n (by kernel_rfl)
theorem g14:G e14:=r (c g1 (c g2 (c g5 (c g7 (c g8 (c g10 n)))))) (by kernel_rfl)
theorem g19:G e19:=r (c g16 (c g18 n)) (by kernel_rfl)
theorem g22:G e22:=r (c g16 (c g18 n)) (by kernel_rfl)
end Eng.Sq
end
