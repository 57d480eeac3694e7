import Derived.Test.YthpplhmhgcenkaaGreatDoorTk27
section
namespace Eng.Tk
open Go Go.Proofs
set_option maxRecDepth 1000000
variable [Env] [xx] [BdOk]
theorem me:G rj:=r3 (c mD (c fQ (c df (c FQ (c FR n)))))
theorem mf:G rp:=r2 (c Tb (c Tc (c fW (c FU (c FV n)))))
end Eng.Tk
end
