import Derived.Test.YtmfkgpfkpnmdnaaGreatDoorTk30
import Derived.Test.YtmfkgpfkpnmdnaaGreatDoorTk31
section
namespace Eng.Tk
open Go Go.Proofs
set_option maxRecDepth 1000000
variable [Env] [xr] [BdOk]
theorem gE:G nn:=r3 (c EN (c Ec (c Ed (c af n))))
theorem gF:G ns:=r2 (c Ux (c Uy (c Ef (c Eg n))))
theorem g2021:G nI:=r2 (c g129 (c gO (c g153 (c gP (c Uw (c KQ (c g362 (c g367 (c g369 (c g373 (c IX (c IY (c IZ (c Ry (c R0 (c Rz (c aa (c gA (c gv n)))))))))))))))))))
theorem g1911:G ng:=r2 (c g239 (c gQ (c g245 (c g258 (c cf (c g263 (c Rw (c R1 (c DZ (c Rx (c R2 (c Ea (c Ee (c En (c ab (c gB (c gC n)))))))))))))))))
end Eng.Tk
end
