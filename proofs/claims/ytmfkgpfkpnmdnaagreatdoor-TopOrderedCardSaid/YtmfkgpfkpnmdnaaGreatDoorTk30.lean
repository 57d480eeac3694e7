import Derived.Test.YtmfkgpfkpnmdnaaGreatDoorTk28
section
namespace Eng.Tk
open Go Go.Proofs
set_option maxRecDepth 1000000
variable [Env] [xr] [BdOk]
theorem g9:G ni:=r3 (c NA (c Ux (c Uy (c bX (c aq (c gT (c ar (c gV (c gX (c Nw (c Ec (c Ed (c IW n)))))))))))))
theorem af:G nl:=r2 (c NA (c Ux (c Uy (c Nw (c Eb n)))))
theorem gA:G nG:=r3 (c Ry (c Rz (c aa n)))
theorem g2042:G nK:=r2 (c Uw (c fC (c fD (c KQ (c am (c IX (c IY (c IZ (c R0 (c Rz (c gw n)))))))))))
end Eng.Tk
end
