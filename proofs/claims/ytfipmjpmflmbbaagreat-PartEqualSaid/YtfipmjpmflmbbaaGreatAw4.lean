/- Closed runs, printed by a program (gather); each by the kernel. -/
import Derived.Test.YtfipmjpmflmbbaaGreatAwDat
import Derived.Test.YtfipmjpmflmbbaaGreatAw5
section
namespace Eng.Aw
open Go Go.Proofs
set_option maxRecDepth 1000000
theorem rt:G e981:=r n
theorem ry:G e994:=r n
theorem IN:G rY:=r n
theorem O7:G rZ:=r n
theorem IO:G sv:=r n
theorem rz:G s7:=r n
theorem r8:G ge:=r n
theorem O8:G sB:=r n
theorem DG:G sC:=r n
theorem IP:G sD:=r n
theorem DH:G sE:=r n
theorem r9:G gg:=r n
theorem rA:G gi:=r n
theorem fE:G sG:=r n
theorem fF:G sH:=r n
theorem rB:G gk:=r n
theorem fG:G sJ:=r n
theorem fH:G sK:=r n
theorem rC:G gu:=r n
theorem rD:G gv:=r n
theorem fI:G sN:=r n
theorem rE:G sS:=r n
theorem rF:G sT:=r n
theorem g997:G e997:=r (c ry n)
theorem IQ:G si:=r (c Tj (c rL (c O7 n)))
theorem Ti:G so:=r (c UY (c nG (c fQ (c rL n))))
theorem fJ:G sF:=r (c DH n)
theorem fK:G sI:=r (c DH n)
theorem rG:G sM:=r (c DG (c IP (c DH n)))
theorem fL:G sO:=r (c Tj (c O7 n))
theorem fM:G sP:=r (c Tj (c O7 n))
end Eng.Aw
end
