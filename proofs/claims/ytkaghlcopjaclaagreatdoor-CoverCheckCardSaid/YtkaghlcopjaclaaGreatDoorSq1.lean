import Derived.Test.YtkaghlcopjaclaaGreatDoorSqDat
section
namespace Eng.Sq
open Go Go.Proofs
set_option maxRecDepth 1000000
theorem g1:G e1:=r n (by kernel_rfl)
theorem g2:G e2:=r n (by kernel_rfl)
theorem g5:G e5:=r n (by kernel_rfl)
theorem g7:G e7:=r n (by kernel_rfl)
theorem g8:G e8:=r n (by kernel_rfl)
theorem g10:G e10:=r n (by kernel_rfl)
theorem g16:G e16:=r n (by kernel_rfl)
theorem g18:G e18:=r n (by kernel_rfl)
theorem g27:G e27:=r n (by kernel_rfl)
theorem g30:G e30:=r n (by kernel_rfl)
theorem g33:G e33:=r n (by kernel_rfl)
theorem g42:G e42:=r n (by kernel_rfl)
theorem g46:G e46:=r n (by kernel_rfl)
theorem g59:G e59:=r n (by kernel_rfl)
theorem g60:G e60:=r n (by kernel_rfl)
theorem rt:G e139:=r n (by kernel_rfl)
theorem oN:G e142:=r n (by kernel_rfl)
theorem iE:G e143:=r n (by kernel_rfl)
theorem oO:G e144:=r n (by kernel_rfl)
theorem aj:G e145:=r n (by kernel_rfl)
theorem rx:G e149:=r n (by kernel_rfl)
theorem ry:G e153:=r n (by kernel_rfl)
end Eng.Sq
end
