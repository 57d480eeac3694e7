/- Closed runs, printed by a program (gather); each by the kernel. -/
import Derived.Test.YtfipmjpmflmbbaaGreatDAwDat
section
namespace Eng.Aw
open Go Go.Proofs
set_option maxRecDepth 1000000
theorem pe:G e271:=r n
theorem g341:G e341:=r n
theorem g385:G e385:=r n
theorem g417:G e417:=r n
theorem ep:G e446:=r n
theorem fC:G e449:=r n
theorem fD:G e469:=r n
theorem np:G e522:=r n
theorem ns:G e523:=r n
theorem g584:G e584:=r n
theorem g587:G e587:=r n
theorem DD:G e589:=r n
theorem fE:G e590:=r n
theorem fF:G e603:=r n
theorem pg:G e608:=r n
theorem nt:G e616:=r n
theorem ae:G e622:=r n
theorem DE:G e623:=r n
theorem nw:G e635:=r n
theorem VT:G e638:=r n
theorem AQ:G e639:=r n
theorem g655:G e655:=r n
theorem af:G e672:=r n
theorem ph:G e674:=r n
theorem fG:G e676:=r n
theorem g692:G e692:=r n
theorem fH:G e703:=r n
theorem g1:G e1:=r n
theorem g2:G e2:=r n
theorem g6:G e6:=r n
theorem g9:G e9:=r n
theorem g10:G e10:=r n
theorem g12:G e12:=r n
theorem g14:G e14:=r n
theorem g19:G e19:=r n
theorem g21:G e21:=r n
theorem g31:G e31:=r n
theorem g34:G e34:=r n
theorem g37:G e37:=r n
theorem g47:G e47:=r n
theorem g50:G e50:=r n
theorem g66:G e66:=r n
theorem g67:G e67:=r n
theorem g74:G e74:=r n
theorem g81:G e81:=r n
theorem g93:G e93:=r n
theorem pi:G e117:=r n
theorem pj:G e161:=r n
theorem pn:G e165:=r n
theorem fI:G e167:=r n
theorem g168:G e168:=r n
theorem et:G e169:=r n
theorem g173:G e173:=r n
theorem po:G e177:=r n
theorem g192:G e192:=r n
theorem ny:G e193:=r n
theorem pp:G e194:=r n
theorem g202:G e202:=r n
theorem g206:G e206:=r n
theorem pq:G e210:=r n
theorem g244:G e244:=r n
theorem fJ:G e249:=r n
theorem g256:G e256:=r n
end Eng.Aw
end
