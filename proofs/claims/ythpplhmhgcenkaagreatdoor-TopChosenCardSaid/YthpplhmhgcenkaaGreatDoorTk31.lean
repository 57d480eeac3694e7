import Derived.Test.YthpplhmhgcenkaaGreatDoorTk30
section
namespace Eng.Tk
open Go Go.Proofs
set_option maxRecDepth 1000000
variable [Env] [xx] [BdOk]
theorem g1957:G rz:=r2 (c O8 (c Tb (c Tc (c g273 (c fL (c g281 (c dG (c g296 (c mG (c g303 (c dH (c g319 (c mI (c g325 (c mK (c SB (c SG (c FN (c SC (c Ot (c SH (c FO (c FS (c FW (c cY (c mb (c mg n)))))))))))))))))))))))))))
theorem g1977:G rA:=r2 (c g336 (c AK (c g341 (c SB (c SG (c FN (c SC (c SH (c FO (c FS (c FW (c FP (c dg (c mh (c mi n)))))))))))))))
end Eng.Tk
end
