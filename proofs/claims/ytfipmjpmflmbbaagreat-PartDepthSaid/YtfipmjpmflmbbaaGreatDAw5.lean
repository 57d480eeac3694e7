/- Closed runs, printed by a program (gather); each by the kernel. -/
import Derived.Test.YtfipmjpmflmbbaaGreatDAwDat
import Derived.Test.YtfipmjpmflmbbaaGreatDAw2
section
namespace Eng.Aw
open Go Go.Proofs
set_option maxRecDepth 1000000
theorem rD:G gW:=r n
theorem fV:G sQ:=r n
theorem rE:G sS:=r n
theorem g17:G e17:=r (c g1 (c g2 (c g6 (c g9 (c g10 (c g12 (c g14 n)))))))
theorem g22:G e22:=r (c g19 (c g21 n))
theorem g25:G e25:=r (c g19 (c g21 n))
theorem g35:G e35:=r (c g21 (c g31 (c g34 n)))
theorem g43:G e43:=r (c g34 n)
theorem g52:G e52:=r (c g50 n)
theorem g58:G e58:=r (c g19 (c g21 n))
theorem nC:G e707:=r n
theorem Td:G e709:=r n
theorem rF:G e710:=r n
theorem rG:G e711:=r n
theorem fW:G e722:=r n
theorem fX:G e733:=r n
theorem nD:G e739:=r n
theorem nE:G e742:=r n
theorem g746:G e746:=r n
theorem Te:G e753:=r n
theorem eu:G e761:=r n
theorem g767:G e767:=r n
theorem am:G e770:=r n
theorem To:G e776:=r n
theorem nG:G e778:=r n
theorem nH:G e780:=r n
theorem fY:G e782:=r n
theorem g783:G e783:=r n
theorem rH:G e785:=r n
theorem g787:G e787:=r n
theorem nI:G e799:=r n
theorem nJ:G e823:=r n
theorem rI:G e840:=r n
theorem g846:G e846:=r n
theorem g847:G e847:=r n
theorem g848:G e848:=r n
theorem g865:G e865:=r n
theorem rJ:G e876:=r n
theorem nK:G e881:=r n
theorem g897:G e897:=r n
theorem g926:G e926:=r n
theorem g946:G e946:=r n
end Eng.Aw
end
