/- Closed runs, printed by a program (gather); each by the kernel. -/
import Derived.Test.YtfipmjpmflmbbaaGreatAwDat
import Derived.Test.YtfipmjpmflmbbaaGreatAw2
import Derived.Test.YtfipmjpmflmbbaaGreatAw5
import Derived.Test.YtfipmjpmflmbbaaGreatAw4
import Derived.Test.YtfipmjpmflmbbaaGreatAw6
section
namespace Eng.Aw
open Go Go.Proofs
set_option maxRecDepth 1000000
theorem eh:G e677:=r (c GB (c VQ (c IM (c eu (c ew (c fA n))))))
theorem II:G e714:=r (c GB (c VP (c A7 n)))
theorem g726:G e726:=r (c Rq n)
theorem mX:G e751:=r (c GB (c VQ (c IM n)))
theorem ei:G e755:=r (c A7 (c VQ (c UZ n)))
theorem oL:G e786:=r (c nN (c rL n))
theorem g806:G e806:=r (c f7 (c pn (c Dz (c fO (c fP (c A9 (c g787 (c nI n))))))))
theorem mY:G e910:=r (c A7 (c VQ (c UZ n)))
theorem fi:G e936:=r (c VP (c fA (c UZ (c IR (c fU (c fV n))))))
theorem fj:G e947:=r (c GB (c IM (c eu n)))
theorem oM:G e950:=r (c VQ (c IM (c ew n)))
theorem oN:G e954:=r (c VP (c IM (c IR (c fU n))))
theorem oO:G e956:=r (c UZ (c IR (c fV n)))
theorem g967:G e967:=r (c Dy (c et (c nQ n)))
theorem g970:G e970:=r (c Dy (c et (c nQ n)))
theorem mZ:G e987:=r (c f7 (c pn (c Dz (c fP (c A9 (c g787 (c nI (c rt n))))))))
theorem fk:G e992:=r (c fW n)
theorem g999:G e999:=r (c g995 (c g997 n))
theorem GA:G sj:=r (c IQ n)
theorem oQ:G gf:=r (c O8 (c DG (c IP (c fJ n))))
theorem fl:G sQ:=r (c ry n)
theorem g39:G e39:=r (c g35 (c g37 n))
theorem g42:G e42:=r (c g35 (c g37 n))
theorem g44:G e44:=r (c g43 n)
theorem g70:G e70:=r (c g35 (c g37 (c g66 (c g67 n))))
theorem g73:G e73:=r (c g14 (c g35 (c g37 (c g66 (c g67 n)))))
theorem g77:G e77:=r (c g76 n)
theorem g78:G e78:=r (c g43 n)
theorem g95:G e95:=r (c g9 (c g10 (c g35 (c g37 (c g66 (c g93 n))))))
theorem g98:G e98:=r (c g9 (c g10 (c g35 (c g37 (c g66 (c g93 n))))))
theorem DC:G e100:=r (c g43 n)
theorem g110:G e110:=r (c g14 (c g35 (c g37 n)))
theorem g113:G e113:=r (c g35 (c g37 n))
theorem ej:G e116:=r (c g76 n)
theorem oR:G e118:=r (c g43 n)
theorem g356:G e356:=r (c pq (c g192 (c g202 (c g244 (c g269 (c g306 n))))))
theorem g383:G e383:=r (c g19 (c g21 (c rR n)))
theorem oS:G e400:=r (c g389 n)
theorem g405:G e405:=r (c g19 (c g21 (c g22 (c rR n))))
end Eng.Aw
end
