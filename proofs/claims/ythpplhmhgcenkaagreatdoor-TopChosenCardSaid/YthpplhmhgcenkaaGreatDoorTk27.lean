import Derived.Test.YthpplhmhgcenkaaGreatDoorTk24
section
namespace Eng.Tk
open Go Go.Proofs
set_option maxRecDepth 1000000
variable [Env] [xx] [BdOk]
theorem g2042:G rN:=r2 (c Ta (c lE (c lF (c Wn (c du (c cZ (c da (c db (c SF (c SE (c ma n)))))))))))
theorem FW:G pY:=r2 (c SH n)
end Eng.Tk
end
