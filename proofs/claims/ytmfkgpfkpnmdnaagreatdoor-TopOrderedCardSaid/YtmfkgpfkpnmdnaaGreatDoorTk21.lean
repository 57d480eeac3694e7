import Derived.Test.YtmfkgpfkpnmdnaaGreatDoorTk17
section
namespace Eng.Tk
open Go Go.Proofs
set_option maxRecDepth 1000000
variable [Env] [xr]
theorem g1507:G mz:=r (c EJ (c bR (c Qz (c cz (c eA (c bS (c aw (c b9 (c eT (c EG (c iq (c DJ (c ir (c KL (c eB (c iu (c DK (c gj (c eZ (c IV (c fv n)))))))))))))))))))))
theorem g685:G e685:=r (c g503 (c fM (c g684 n)))
theorem g1508:G m4:=r (c g490 (c g982 n))
end Eng.Tk
end
