/- Closed runs, printed by a program (gather); each by the kernel. -/
import Derived.Test.YtfipmjpmflmbbaaGreatAwDat
import Derived.Test.YtfipmjpmflmbbaaGreatAw2
import Derived.Test.YtfipmjpmflmbbaaGreatAw5
import Derived.Test.YtfipmjpmflmbbaaGreatAw4
section
namespace Eng.Aw
open Go Go.Proofs
set_option maxRecDepth 1000000
theorem g76:G e76:=r (c g50 n)
theorem g85:G e85:=r (c g50 n)
theorem fT:G e104:=r (c g50 n)
theorem rP:G e122:=r (c g50 n)
theorem rQ:G e214:=r (c pz n)
theorem g237:G e237:=r (c pz n)
theorem g269:G e269:=r (c g14 (c g67 n))
theorem g300:G e300:=r (c pz n)
theorem g306:G e306:=r (c g9 n)
theorem rR:G e379:=r (c g19 (c g21 n))
theorem g389:G e389:=r (c g21 (c g31 (c g385 n)))
theorem g424:G e424:=r (c g34 n)
theorem g454:G e454:=r (c g50 (c eo (c fv n)))
theorem g463:G e463:=r (c g50 (c eo (c fv n)))
theorem rS:G e470:=r (c fw n)
theorem nL:G e481:=r (c g50 n)
theorem rT:G e524:=r (c np (c ns n))
theorem et:G e591:=r (c Dy (c fy n))
theorem rU:G e594:=r (c Dy (c fy n))
theorem Rq:G e604:=r (c f7 n)
theorem g620:G e620:=r (c nt n)
theorem nM:G e621:=r (c f7 n)
theorem A8:G e627:=r (c nt n)
theorem GB:G e636:=r (c nw n)
theorem rV:G e645:=r (c Dy (c fy n))
theorem g659:G e659:=r (c g655 n)
theorem D0:G e663:=r (c g655 n)
theorem VQ:G e671:=r (c nw n)
theorem eu:G e673:=r (c nw n)
theorem ew:G e675:=r (c po n)
theorem g697:G e697:=r (c g692 n)
theorem e8:G e704:=r (c fB n)
theorem A9:G e734:=r (c fP n)
theorem g738:G e738:=r (c nt n)
theorem g758:G e758:=r (c g692 n)
theorem rW:G e772:=r (c VP (c UZ (c IR n)))
theorem nN:G e784:=r (c g783 n)
theorem nO:G e829:=r (c f7 n)
theorem nP:G e875:=r (c po n)
theorem fU:G e934:=r (c nw n)
theorem fV:G e935:=r (c po n)
theorem nQ:G e966:=r (c Dy n)
theorem fW:G e991:=r (c UY (c Tj n))
theorem g995:G e995:=r (c ry n)
end Eng.Aw
end
