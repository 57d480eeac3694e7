/- The first stage's calls, as a table. -/
import Derived.Test.YtfipmjpmflmbbaaGreatAwDat
import Derived.Test.YtfipmjpmflmbbaaGreatAw4
import Derived.Test.YtfipmjpmflmbbaaGreatAw5
import Derived.Test.YtfipmjpmflmbbaaGreatAw11
import Derived.Test.YtfipmjpmflmbbaaGreatAw30
import Derived.Test.YtfipmjpmflmbbaaGreatAw10
import Derived.Test.YtfipmjpmflmbbaaGreatAw14
import Derived.Test.YtfipmjpmflmbbaaGreatAw16
import Derived.Test.YtfipmjpmflmbbaaGreatAw21
import Derived.Test.YtfipmjpmflmbbaaGreatAw24
import Derived.Test.YtfipmjpmflmbbaaGreatAw25
import Derived.Test.YtfipmjpmflmbbaaGreatAw28
section
namespace Eng.Aw
def tabL:List qm:=[fX,fY,fZ,gd,ge,gf,gg,gi,gj,gk,gn,gu,gv,gw,gx,gy,gA,gB,gC,gD,gE,gF,gG,gH,gI,gJ,gL,gM,gN,gO,gP,gQ]
theorem tabL_ok:Rv K5 tabL:=(c oU (c oV (c oW (c oX (c r8 (c oQ (c r9 (c rA (c pV (c rB (c pW (c rC (c rD (c pX (c pA (c pY (c pZ (c pB (c oY (c rd (c oZ (c pb (c re (c oJ (c pC (c pD (c pE (c pP (c pO (c pS (c rH (c pU n))))))))))))))))))))))))))))))))
end Eng.Aw
end
