import Derived.Test.YtmfkgpfkpnmdnaaGreatDoorTk24
import Derived.Test.YtmfkgpfkpnmdnaaGreatDoorCtG
section
namespace Eng.Tk
open Go Go.Proofs
set_option maxRecDepth 1000000
variable [Env] [xr] [BdOk]
theorem aa:G nE:=r2 (c Uw (c KQ (c R0 n)))
theorem gv:G nH:=r2 (c IM (c Uw (c KQ n)))
theorem gw:G nJ:=r3 (c Uw (c KQ (c g359 (c Ry (c R0 (c Rz n))))))
theorem R2:G mP:=r2 (c g217 (c g225 (c Rx (c Nw n))))
end Eng.Tk
end
