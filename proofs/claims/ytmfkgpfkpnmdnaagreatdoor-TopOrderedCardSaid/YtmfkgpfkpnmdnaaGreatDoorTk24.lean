import Derived.Test.YtmfkgpfkpnmdnaaGreatDoorCtF
section
namespace Eng.Tk
open Go Go.Proofs
set_option maxRecDepth 1000000
variable [Env] [xr] [BdOk]
theorem Rw:G mK:=r2 n
theorem Rx:G mN:=r2 n
theorem IW:G nh:=r2 n
theorem IX:G nw:=r2 n
theorem IY:G ny:=r2 n
theorem IZ:G nz:=r2 n
theorem Ry:G n0:=r2 (c Um (c Rp n))
theorem Rz:G nD:=r2 (c fA n)
theorem R0:G nC:=r2 (c Ry n)
theorem R1:G mL:=r2 (c SB (c Rw n))
theorem DZ:G mM:=r2 (c SB n)
theorem Nw:G mO:=r2 (c NB n)
theorem Ea:G mQ:=r2 (c NB n)
theorem Eb:G mT:=r2 (c EN n)
theorem Ec:G mV:=r2 (c SB n)
theorem Ed:G mW:=r2 (c NB n)
end Eng.Tk
end
