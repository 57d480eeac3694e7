/- The first stage's calls, as a table. -/
import Derived.Test.YtfipmjpmflmbbaaGreatDAwDat
import Derived.Test.YtfipmjpmflmbbaaGreatDAw4
import Derived.Test.YtfipmjpmflmbbaaGreatDAw5
import Derived.Test.YtfipmjpmflmbbaaGreatDAw11
import Derived.Test.YtfipmjpmflmbbaaGreatDAw30
import Derived.Test.YtfipmjpmflmbbaaGreatDAw10
import Derived.Test.YtfipmjpmflmbbaaGreatDAw14
import Derived.Test.YtfipmjpmflmbbaaGreatDAw16
import Derived.Test.YtfipmjpmflmbbaaGreatDAw21
import Derived.Test.YtfipmjpmflmbbaaGreatDAw24
import Derived.Test.YtfipmjpmflmbbaaGreatDAw25
import Derived.Test.YtfipmjpmflmbbaaGreatDAw28
section
namespace Eng.Aw
def tabL:List qm:=[gi,gj,gk,gn,gu,gv,gw,gx,gy,gA,gB,gC,gD,gE,gF,gG,gH,gI,gJ,gL,gM,gN,gO,gP,gQ,gR,gS,gT,gU,gV,gW,gX]
theorem tabL_ok:R2 K5 tabL:=(c oQ (c oR (c oS (c oT (c rp (c oL (c rt (c ry (c pR (c rz (c pS (c r8 (c r9 (c pT (c pt (c pU (c pV (c pu (c oU (c pW (c oV (c oW (c pX (c oF (c pw (c pz (c pA (c pL (c pK (c pO (c rD (c pQ n))))))))))))))))))))))))))))))))
end Eng.Aw
end
