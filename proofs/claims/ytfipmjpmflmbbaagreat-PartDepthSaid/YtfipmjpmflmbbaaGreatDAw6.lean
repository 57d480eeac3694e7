/- Closed runs, printed by a program (gather); each by the kernel. -/
import Derived.Test.YtfipmjpmflmbbaaGreatDAwDat
import Derived.Test.YtfipmjpmflmbbaaGreatDAw2
import Derived.Test.YtfipmjpmflmbbaaGreatDAw5
import Derived.Test.YtfipmjpmflmbbaaGreatDAw4
section
namespace Eng.Aw
open Go Go.Proofs
set_option maxRecDepth 1000000
theorem g76:G e76:=r (c g50 n)
theorem g85:G e85:=r (c g50 n)
theorem fZ:G e104:=r (c g50 n)
theorem rK:G e122:=r (c g50 n)
theorem rL:G e214:=r (c pq n)
theorem g237:G e237:=r (c pq n)
theorem g269:G e269:=r (c g14 (c g67 n))
theorem g300:G e300:=r (c pq n)
theorem g306:G e306:=r (c g9 n)
theorem rM:G e379:=r (c g19 (c g21 n))
theorem g389:G e389:=r (c g21 (c g31 (c g385 n)))
theorem g424:G e424:=r (c g34 n)
theorem g454:G e454:=r (c g50 (c ep (c fC n)))
theorem g463:G e463:=r (c g50 (c ep (c fC n)))
theorem rN:G e470:=r (c fD n)
theorem nL:G e481:=r (c g50 n)
theorem rP:G e524:=r (c np (c ns n))
theorem ew:G e591:=r (c DD (c fE n))
theorem rQ:G e594:=r (c DD (c fE n))
theorem Ry:G e604:=r (c fF n)
theorem g620:G e620:=r (c nt n)
theorem nM:G e621:=r (c fF n)
theorem AR:G e627:=r (c nt n)
theorem GD:G e636:=r (c nw n)
theorem rR:G e645:=r (c DD (c fE n))
theorem g659:G e659:=r (c g655 n)
theorem DF:G e663:=r (c g655 n)
theorem VU:G e671:=r (c nw n)
theorem eA:G e673:=r (c nw n)
theorem eB:G e675:=r (c ph n)
theorem g697:G e697:=r (c g692 n)
theorem eC:G e704:=r (c fH n)
theorem AS:G e734:=r (c fX n)
theorem g738:G e738:=r (c nt n)
theorem g758:G e758:=r (c g692 n)
theorem rS:G e772:=r (c VT (c Te (c am n)))
theorem nN:G e784:=r (c g783 n)
theorem nO:G e829:=r (c fF n)
theorem nP:G e875:=r (c ph n)
theorem gd:G e934:=r (c nw n)
theorem gf:G e935:=r (c ph n)
theorem nQ:G e966:=r (c DD n)
theorem gg:G e991:=r (c Td (c To n))
theorem g995:G e995:=r (c rm n)
end Eng.Aw
end
