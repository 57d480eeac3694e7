import Derived.Test.YtmfkgpfkpnmdnaaGreatDoorTk32
section
namespace Eng.Tk
open Go Go.Proofs
set_option maxRecDepth 1000000
variable [Env] [xr] [BdOk]
theorem g1957:G nk:=r2 (c NA (c Ux (c Uy (c g273 (c bX (c g281 (c aq (c g296 (c gT (c g303 (c ar (c g319 (c gV (c g325 (c gX (c Rw (c R1 (c DZ (c Rx (c Nw (c R2 (c Ea (c Ee (c En (c IW (c g9 (c gD n)))))))))))))))))))))))))))
theorem g1977:G nt:=r2 (c g336 (c EN (c g341 (c Rw (c R1 (c DZ (c Rx (c R2 (c Ea (c Ee (c En (c Eb (c af (c gE (c gF n)))))))))))))))
end Eng.Tk
end
