import Derived.Test.YtkaghlcopjaclaaGreatDoorSqDat
import Derived.Test.YtkaghlcopjaclaaGreatDoorSq1
import Derived.Test.YtkaghlcopjaclaaGreatDoorSq2
section
namespace Eng.Sq
open Go Go.Proofs
set_option maxRecDepth 1000000
theorem g31:G e31:=r (c g18 (c g27 (c g30 n))) (by kernel_rfl)
theorem g39:G e39:=r (c g30 n) (by kernel_rfl)
theorem g43:G e43:=r (c g42 n) (by kernel_rfl)
theorem g48:G e48:=r (c g46 n) (by kernel_rfl)
theorem g67:G e67:=r (c g42 n) (by kernel_rfl)
theorem g70:G e70:=r (c g46 n) (by kernel_rfl)
theorem g72:G e72:=r (c g42 n) (by kernel_rfl)
theorem g88:G e88:=r (c g46 n) (by kernel_rfl)
theorem iG:G e100:=r (c g46 n) (by kernel_rfl)
theorem rA:G e101:=r (c g42 n) (by kernel_rfl)
theorem g240:G e240:=r (c g7 (c g60 n)) (by kernel_rfl)
theorem g35:G e35:=r (c g31 (c g33 n)) (by kernel_rfl)
theorem g38:G e38:=r (c g7 (c g31 (c g33 n))) (by kernel_rfl)
theorem g40:G e40:=r (c g39 n) (by kernel_rfl)
theorem g63:G e63:=r (c g31 (c g33 (c g59 (c g60 n)))) (by kernel_rfl)
theorem g66:G e66:=r (c g7 (c g31 (c g33 (c g59 (c g60 n))))) (by kernel_rfl)
theorem g71:G e71:=r (c g39 n) (by kernel_rfl)
theorem g79:G e79:=r (c g7 (c g8 (c g31 (c g33 (c g59 (c g60 n)))))) (by kernel_rfl)
theorem g84:G e84:=r (c g39 n) (by kernel_rfl)
theorem g94:G e94:=r (c g7 (c g31 (c g33 n))) (by kernel_rfl)
theorem rB:G e102:=r (c g39 n) (by kernel_rfl)
theorem nU:G e120:=r (c g67 (c g70 (c g72 n))) (by kernel_rfl)
theorem g311:G e311:=r (c rt (c g168 (c g178 (c g220 (c g240 (c g266 n)))))) (by kernel_rfl)
end Eng.Sq
end
