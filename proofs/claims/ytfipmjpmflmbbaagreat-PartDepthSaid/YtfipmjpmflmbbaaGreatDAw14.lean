/- Closed runs, printed by a program (gather); each by the kernel. -/
import Derived.Test.YtfipmjpmflmbbaaGreatDAwDat
import Derived.Test.YtfipmjpmflmbbaaGreatDAw2
import Derived.Test.YtfipmjpmflmbbaaGreatDAw5
import Derived.Test.YtfipmjpmflmbbaaGreatDAw6
import Derived.Test.YtfipmjpmflmbbaaGreatDAw10
import Derived.Test.YtfipmjpmflmbbaaGreatDAw11
import Derived.Test.YtfipmjpmflmbbaaGreatDAw4
section
namespace Eng.Aw
open Go Go.Proofs
set_option maxRecDepth 1000000
theorem fy:G e807:=r (c g806 n)
theorem g821:G e821:=r (c Ry (c nt (c ae (c AR (c oE (c GD (c VT (c AQ (c DF (c aa (c Te (c am n))))))))))))
theorem oO:G e831:=r (c DE (c AR (c oE (c DF (c g697 (c fH (c eC (c eu (c nO n)))))))))
theorem g863:G e863:=r (c GD (c VT (c VU (c aa (c mX (c Te (c ej (c rS (c g846 (c g847 (c g848 n)))))))))))
theorem g880:G e880:=r (c Ry (c ae (c GD (c VT (c DF (c mS (c fG (c aa (c AS (c g738 (c nD (c nE (c nP (c rJ n))))))))))))))
theorem g889:G e889:=r (c DF (c mS (c VU (c fG (c eC (c AS (c nD (c nE (c Te (c ej (c g758 (c eu (c nP (c rJ n))))))))))))))
theorem g908:G e908:=r (c DC (c mQ (c DE (c DF (c g697 (c fH (c eC (c eu (c nO n)))))))))
theorem g913:G e913:=r (c mY n)
theorem g930:G e930:=r (c DC (c mQ (c DE (c AR (c fH (c eC (c eu (c nO (c g926 n)))))))))
theorem g933:G e933:=r (c DE (c AR (c DF (c mS (c fH (c eC (c eu (c nO (c g926 n)))))))))
theorem g939:G e939:=r (c fp n)
theorem eo:G e948:=r (c fq n)
theorem nc:G e951:=r (c oI n)
theorem nd:G e955:=r (c oJ n)
theorem nf:G e957:=r (c oK n)
theorem g959:G e959:=r (c mR n)
theorem g960:G e960:=r (c ei n)
theorem g961:G e961:=r (c mY n)
theorem g962:G e962:=r (c fp n)
theorem DS:G rT:=r (c g783 (c nN (c g999 n)))
theorem DT:G rW:=r (c To (c nN (c oH (c OJ n))))
theorem DU:G rX:=r (c Td (c fY (c nN (c oH n))))
theorem f7:G s5:=r (c fu (c GC (c Tn (c rn n))))
theorem oQ:G gi:=r (c DC (c AR (c GD (c VT (c eA (c gd n))))))
theorem oR:G gj:=r (c DC (c GD (c DF (c VU (c eA (c eB n))))))
theorem oS:G gk:=r (c DC (c AR (c DF (c VU (c eB (c Te (c gf n)))))))
theorem oT:G gn:=r (c DC (c AR (c VT (c DF (c Te (c gd (c gf n)))))))
end Eng.Aw
end
