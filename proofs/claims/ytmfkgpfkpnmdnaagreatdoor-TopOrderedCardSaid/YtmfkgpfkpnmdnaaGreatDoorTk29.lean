import Derived.Test.YtmfkgpfkpnmdnaaGreatDoorTk24
section
namespace Eng.Tk
open Go Go.Proofs
set_option maxRecDepth 1000000
variable [Env] [xr] [BdOk]
theorem Ee:G mR:=r2 (c R1 n)
theorem ab:G mU:=r2 (c NA (c Ux (c Uy (c cn (c cf (c Nw (c Eb n)))))))
theorem Ef:G mY:=r2 (c NA (c Ux n))
theorem Eg:G mZ:=r2 (c NA (c Uy n))
end Eng.Tk
end
