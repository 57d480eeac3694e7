/- Closed runs, printed by a program (gather); each by the kernel. -/
import Derived.Test.YtfipmjpmflmbbaaGreatDAwDat
import Derived.Test.YtfipmjpmflmbbaaGreatDAw2
import Derived.Test.YtfipmjpmflmbbaaGreatDAw5
import Derived.Test.YtfipmjpmflmbbaaGreatDAw4
import Derived.Test.YtfipmjpmflmbbaaGreatDAw6
section
namespace Eng.Aw
open Go Go.Proofs
set_option maxRecDepth 1000000
theorem ei:G e677:=r (c GD (c VU (c af (c eA (c eB (c fG n))))))
theorem aa:G e714:=r (c GD (c VT (c AQ n)))
theorem g726:G e726:=r (c Ry n)
theorem mX:G e751:=r (c GD (c VU (c af n)))
theorem ej:G e755:=r (c AQ (c VU (c Te n)))
theorem oH:G e786:=r (c nN (c rH n))
theorem g806:G e806:=r (c fF (c pg (c DE (c fW (c fX (c AS (c g787 (c nI n))))))))
theorem mY:G e910:=r (c AQ (c VU (c Te n)))
theorem fp:G e936:=r (c VT (c fG (c Te (c am (c gd (c gf n))))))
theorem fq:G e947:=r (c GD (c af (c eA n)))
theorem oI:G e950:=r (c VU (c af (c eB n)))
theorem oJ:G e954:=r (c VT (c af (c am (c gd n))))
theorem oK:G e956:=r (c Te (c am (c gf n)))
theorem g967:G e967:=r (c DD (c ew (c nQ n)))
theorem g970:G e970:=r (c DD (c ew (c nQ n)))
theorem mZ:G e987:=r (c fF (c pg (c DE (c fX (c AS (c g787 (c nI (c rl n))))))))
theorem fu:G e992:=r (c gg n)
theorem g999:G e999:=r (c g995 (c g997 n))
theorem GC:G sb:=r (c ak n)
theorem oL:G gv:=r (c OK (c DV (c aj (c fP n))))
theorem fv:G sN:=r (c rm n)
theorem g39:G e39:=r (c g35 (c g37 n))
theorem g42:G e42:=r (c g35 (c g37 n))
theorem g44:G e44:=r (c g43 n)
theorem g70:G e70:=r (c g35 (c g37 (c g66 (c g67 n))))
theorem g73:G e73:=r (c g14 (c g35 (c g37 (c g66 (c g67 n)))))
theorem g77:G e77:=r (c g76 n)
theorem g78:G e78:=r (c g43 n)
theorem g95:G e95:=r (c g9 (c g10 (c g35 (c g37 (c g66 (c g93 n))))))
theorem g98:G e98:=r (c g9 (c g10 (c g35 (c g37 (c g66 (c g93 n))))))
theorem DR:G e100:=r (c g43 n)
theorem g110:G e110:=r (c g14 (c g35 (c g37 n)))
theorem g113:G e113:=r (c g35 (c g37 n))
theorem ek:G e116:=r (c g76 n)
theorem oM:G e118:=r (c g43 n)
theorem g356:G e356:=r (c pj (c g192 (c g202 (c g244 (c g269 (c g306 n))))))
theorem g383:G e383:=r (c g19 (c g21 (c rM n)))
theorem oN:G e400:=r (c g389 n)
theorem g405:G e405:=r (c g19 (c g21 (c g22 (c rM n))))
end Eng.Aw
end
