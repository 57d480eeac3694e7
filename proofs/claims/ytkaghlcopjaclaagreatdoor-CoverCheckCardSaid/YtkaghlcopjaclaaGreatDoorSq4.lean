import Derived.Test.YtkaghlcopjaclaaGreatDoorSqDat
import Derived.Test.YtkaghlcopjaclaaGreatDoorSq1
import Derived.Test.YtkaghlcopjaclaaGreatDoorSq2
import Derived.Test.YtkaghlcopjaclaaGreatDoorSq3
section
namespace Eng.Sq
open Go Go.Proofs
set_option maxRecDepth 1000000
theorem g49:G e49:=r (c g40 (c g43 (c g48 n))) (by kernel_rfl)
theorem g73:G e73:=r (c g43 (c g48 (c g67 (c g70 (c g71 (c g72 n)))))) (by kernel_rfl)
theorem g90:G e90:=r (c g67 (c g84 (c g88 n))) (by kernel_rfl)
theorem oV:G e103:=r (c g40 (c g84 (c g88 (c iG (c rA (c rB n)))))) (by kernel_rfl)
theorem iH:G e106:=r (c g40 (c iG (c rB n))) (by kernel_rfl)
theorem nV:G e112:=r (c g43 (c g70 (c g71 (c iG n)))) (by kernel_rfl)
theorem oW:G e121:=r (c nU n) (by kernel_rfl)
theorem Ss:G e122:=r (c g48 (c g67 (c g84 n))) (by kernel_rfl)
theorem Sj:G e124:=r (c g40 (c g48 (c g84 (c iG (c rA (c rB n)))))) (by kernel_rfl)
theorem nW:G e128:=r (c g70 (c g84 (c iG (c rA n)))) (by kernel_rfl)
theorem g50:G e50:=r (c g49 n) (by kernel_rfl)
theorem g74:G e74:=r (c g73 n) (by kernel_rfl)
theorem g91:G e91:=r (c g8 (c g16 (c g18 (c g19 (c g22 (c g31 (c g33 (c g59 (c g60 (c g79 (c g90 n))))))))))) (by kernel_rfl)
theorem oX:G e107:=r (c iH n) (by kernel_rfl)
theorem oY:G e113:=r (c nV n) (by kernel_rfl)
theorem oZ:G e129:=r (c nW n) (by kernel_rfl)
theorem rC:G e156:=r (c g49 n) (by kernel_rfl)
theorem rD:G e160:=r (c g73 n) (by kernel_rfl)
theorem rF:G e197:=r (c Sj n) (by kernel_rfl)
theorem rG:G e233:=r (c Ss n) (by kernel_rfl)
theorem g256:G e256:=r (c g7 (c g49 (c g60 (c Ss (c oN (c iE (c aj (c oQ (c oR (c oT n)))))))))) (by kernel_rfl)
theorem g294:G e294:=r (c g73 (c Sj (c oO (c aj (c oS (c oT (c iF (c oU n)))))))) (by kernel_rfl)
end Eng.Sq
end
