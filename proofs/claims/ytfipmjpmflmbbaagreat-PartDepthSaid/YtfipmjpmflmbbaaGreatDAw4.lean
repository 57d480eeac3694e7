/- Closed runs, printed by a program (gather); each by the kernel. -/
import Derived.Test.YtfipmjpmflmbbaaGreatDAwDat
import Derived.Test.YtfipmjpmflmbbaaGreatDAw5
section
namespace Eng.Aw
open Go Go.Proofs
set_option maxRecDepth 1000000
theorem rl:G e981:=r n
theorem rm:G e994:=r n
theorem ah:G rU:=r n
theorem OJ:G rV:=r n
theorem ai:G sk:=r n
theorem rn:G s4:=r n
theorem rp:G gu:=r n
theorem OK:G s8:=r n
theorem DV:G s9:=r n
theorem aj:G sA:=r n
theorem DW:G sB:=r n
theorem rt:G gw:=r n
theorem ry:G gx:=r n
theorem fK:G sD:=r n
theorem fL:G sE:=r n
theorem rz:G gA:=r n
theorem fM:G sG:=r n
theorem fN:G sH:=r n
theorem r8:G gC:=r n
theorem r9:G gD:=r n
theorem fO:G sJ:=r n
theorem rA:G sO:=r n
theorem rB:G sP:=r n
theorem g997:G e997:=r (c rm n)
theorem ak:G rZ:=r (c To (c rH (c OJ n)))
theorem Tn:G sd:=r (c Td (c nG (c fY (c rH n))))
theorem fP:G sC:=r (c DW n)
theorem fQ:G sF:=r (c DW n)
theorem rC:G sI:=r (c DV (c aj (c DW n)))
theorem fT:G sK:=r (c To (c OJ n))
theorem fU:G sM:=r (c To (c OJ n))
end Eng.Aw
end
