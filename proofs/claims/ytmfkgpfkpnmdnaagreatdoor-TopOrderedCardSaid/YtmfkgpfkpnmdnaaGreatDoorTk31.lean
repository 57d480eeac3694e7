import Derived.Test.YtmfkgpfkpnmdnaaGreatDoorTk28
import Derived.Test.YtmfkgpfkpnmdnaaGreatDoorTk29
section
namespace Eng.Tk
open Go Go.Proofs
set_option maxRecDepth 1000000
variable [Env] [xr] [BdOk]
theorem En:G mS:=r2 (c R2 n)
theorem gB:G mX:=r3 (c gQ (c cf (c ab (c Ec (c Ed n)))))
theorem gC:G nc:=r2 (c Ux (c Uy (c cn (c Ef (c Eg n)))))
theorem gD:G nj:=r2 (c Ux (c Uy (c aq (c ar (c Ef (c Eg n))))))
end Eng.Tk
end
