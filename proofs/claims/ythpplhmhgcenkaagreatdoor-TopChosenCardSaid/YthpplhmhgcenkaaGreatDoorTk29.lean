import Derived.Test.YthpplhmhgcenkaaGreatDoorTk28
section
namespace Eng.Tk
open Go Go.Proofs
set_option maxRecDepth 1000000
variable [Env] [xx] [BdOk]
theorem mg:G ry:=r2 (c Tb (c Tc (c dG (c dH (c FU (c FV n))))))
theorem mh:G r8:=r2 (c AK (c FQ (c FR (c dg n))))
theorem mi:G r9:=r2 (c Tb (c Tc (c FU (c FV n))))
end Eng.Tk
end
