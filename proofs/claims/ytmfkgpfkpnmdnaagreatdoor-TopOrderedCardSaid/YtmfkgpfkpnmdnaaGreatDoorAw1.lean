import Derived.Test.YtmfkgpfkpnmdnaaGreatDoorAwDat
section
namespace Eng.Aw
open Go Go.Proofs
set_option maxRecDepth 1000000
variable [Env]
theorem g3:G e3:=r n
theorem g33:G e33:=r (c g3 n)
theorem g38:G e38:=r (c g3 (c g33 n))
end Eng.Aw
end
