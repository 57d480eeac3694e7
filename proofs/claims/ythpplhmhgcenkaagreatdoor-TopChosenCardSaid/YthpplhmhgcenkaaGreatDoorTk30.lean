import Derived.Test.YthpplhmhgcenkaaGreatDoorTk29
section
namespace Eng.Tk
open Go Go.Proofs
set_option maxRecDepth 1000000
variable [Env] [xx] [BdOk]
theorem g2021:G rL:=r2 (c g129 (c mB (c g153 (c mC (c Ta (c Wn (c g362 (c g367 (c g369 (c g373 (c cZ (c da (c db (c SD (c SF (c SE (c de (c mc (c lZ n)))))))))))))))))))
theorem g1911:G rq:=r2 (c g239 (c mD (c g245 (c g258 (c fQ (c g263 (c SB (c SG (c FN (c SC (c SH (c FO (c FS (c FW (c df (c me (c mf n)))))))))))))))))
end Eng.Tk
end
