import Derived.Test.YtmfkgpfkpnmdnaaGreatDoorTk13
section
namespace Eng.Tk
open Go Go.Proofs
set_option maxRecDepth 1000000
variable [Env] [xr]
theorem fu:G mj:=r (c SA (c Vw (c SE (c DJ (c DK (c iw (c eC (c Uu (c IK (c fW (c fa (c fb (c fc (c ff (c Uv (c Uz (c Qy (c R5 (c ao (c R7 (c IE (c IF (c Q0 (c DT (c Rs (c DL (c IL (c iD (c fh (c DM (c Ez (c IG (c DN (c fi (c eG (c eJ (c iE (c fj (c IH (c DO (c E0 (c II (c DP (c fm (c eK (c iF (c eM (c fo (c IJ (c DQ (c fp (c eN (c eO (c fq n))))))))))))))))))))))))))))))))))))))))))))))))))))))
theorem fv:G my:=r (c SA (c Rr (c Vw (c SE (c DJ (c Eu (c KL (c g791 (c Ex (c DK (c iw (c eC (c fV (c IK (c fW (c fX (c fY (c fa (c fb (c fZ (c gc (c gf (c gg (c EH (c fc (c gi (c ff (c E1 (c eP (c eQ (c IV n)))))))))))))))))))))))))))))))
theorem g684:G e684:=r (c g503 (c g510 (c g511 (c ch (c ci (c g557 (c g566 (c Et (c EO (c fN (c g671 (c g683 n))))))))))))
theorem g982:G e982:=r (c bR (c Qz (c Uo (c Vw (c cz (c eA (c g709 (c N9 (c g731 (c bS (c Ep (c g747 (c aw (c b9 (c eT (c EG (c hJ (c iq (c DJ (c g778 (c Eu (c ir (c g782 (c g786 (c g788 (c KL (c eB (c iu (c DK (c g803 (c bU (c g949 (c g959 (c gj (c eZ n)))))))))))))))))))))))))))))))))))
theorem g1450:G mo:=r (c Xj (c bR (c Qz (c Uo (c GZ (c Vw (c cz (c eA (c bS (c Ep (c aw (c b9 (c eT (c EG (c hJ (c iq (c DJ (c Eu (c ir (c KL (c eB (c iu (c DK (c eZ (c g983 (c Uv (c eF (c gk (c Qy (c hZ (c Er (c i9 (c iA (c ic (c ig (c IE (c iB (c ii (c ij (c ik (c IF (c Q0 (c iC (c il (c DT (c IT (c IU (c fu (c gN n)))))))))))))))))))))))))))))))))))))))))))))))))
end Eng.Tk
end
