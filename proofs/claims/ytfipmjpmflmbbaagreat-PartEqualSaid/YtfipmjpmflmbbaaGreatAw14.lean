/- Closed runs, printed by a program (gather); each by the kernel. -/
import Derived.Test.YtfipmjpmflmbbaaGreatAwDat
import Derived.Test.YtfipmjpmflmbbaaGreatAw2
import Derived.Test.YtfipmjpmflmbbaaGreatAw5
import Derived.Test.YtfipmjpmflmbbaaGreatAw6
import Derived.Test.YtfipmjpmflmbbaaGreatAw10
import Derived.Test.YtfipmjpmflmbbaaGreatAw11
import Derived.Test.YtfipmjpmflmbbaaGreatAw4
section
namespace Eng.Aw
open Go Go.Proofs
set_option maxRecDepth 1000000
theorem fm:G e807:=r (c g806 n)
theorem g821:G e821:=r (c Rq (c nt (c IL (c A8 (c oI (c GB (c VP (c A7 (c D0 (c II (c UZ (c IR n))))))))))))
theorem oT:G e831:=r (c Dz (c A8 (c oI (c D0 (c g697 (c fB (c e8 (c er (c nO n)))))))))
theorem g863:G e863:=r (c GB (c VP (c VQ (c II (c mX (c UZ (c ei (c rW (c g846 (c g847 (c g848 n)))))))))))
theorem g880:G e880:=r (c Rq (c IL (c GB (c VP (c D0 (c mS (c fA (c II (c A9 (c g738 (c nD (c nE (c nP (c rN n))))))))))))))
theorem g889:G e889:=r (c D0 (c mS (c VQ (c fA (c e8 (c A9 (c nD (c nE (c UZ (c ei (c g758 (c er (c nP (c rN n))))))))))))))
theorem g908:G e908:=r (c Dx (c mQ (c Dz (c D0 (c g697 (c fB (c e8 (c er (c nO n)))))))))
theorem g913:G e913:=r (c mY n)
theorem g930:G e930:=r (c Dx (c mQ (c Dz (c A8 (c fB (c e8 (c er (c nO (c g926 n)))))))))
theorem g933:G e933:=r (c Dz (c A8 (c D0 (c mS (c fB (c e8 (c er (c nO (c g926 n)))))))))
theorem g939:G e939:=r (c fi n)
theorem ek:G e948:=r (c fj n)
theorem nc:G e951:=r (c oM n)
theorem nd:G e955:=r (c oN n)
theorem nf:G e957:=r (c oO n)
theorem g959:G e959:=r (c mR n)
theorem g960:G e960:=r (c eh n)
theorem g961:G e961:=r (c mY n)
theorem g962:G e962:=r (c fi n)
theorem DD:G rX:=r (c g783 (c nN (c g999 n)))
theorem DE:G sb:=r (c Tj (c nN (c oL (c O7 n))))
theorem DF:G sc:=r (c UY (c fQ (c nN (c oL n))))
theorem fo:G s8:=r (c fk (c GA (c Ti (c rz n))))
theorem oU:G fX:=r (c Dx (c A8 (c GB (c VP (c eu (c fU n))))))
theorem oV:G fY:=r (c Dx (c GB (c D0 (c VQ (c eu (c ew n))))))
theorem oW:G fZ:=r (c Dx (c A8 (c D0 (c VQ (c ew (c UZ (c fV n)))))))
theorem oX:G gd:=r (c Dx (c A8 (c VP (c D0 (c UZ (c fU (c fV n)))))))
end Eng.Aw
end
