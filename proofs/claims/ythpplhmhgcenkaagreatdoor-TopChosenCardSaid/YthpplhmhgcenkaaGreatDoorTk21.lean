import Derived.Test.YthpplhmhgcenkaaGreatDoorTk17
section
namespace Eng.Tk
open Go Go.Proofs
set_option maxRecDepth 1000000
variable [Env] [xx]
theorem g1507:G oG:=r (c BV (c F5 (c y4 (c Ak (c A6 (c BY (c Cc (c Fl (c iZ (c UY (c AN (c Wk (c AO (c ZP (c Fm (c AP (c V4 (c AH (c A7 (c SA (c lk n)))))))))))))))))))))
theorem lW:G oM:=r (c F5 (c y4 (c Wl (c Ak (c A6 (c g709 (c UZ (c g731 (c BY (c SJ (c g747 (c Cc (c Fl (c UY (c AN (c Wk (c g778 (c AO (c g782 (c bY (c g788 (c Fm (c mO (c AP (c V4 (c fD (c fJ (c AH (c A7 (c Fv (c lw n)))))))))))))))))))))))))))))))
theorem lX:G oR:=r (c F5 (c y4 (c Wl (c Wm (c Ak (c A6 (c BY (c SJ (c Cc (c Fl (c UY (c AN (c Wk (c AO (c Fm (c AP (c V4 (c AH (c A7 (c g983 (c HI (c bZ (c cV (c y3 (c Ou (c dz (c SK (c Ah (c dN (c dO (c dA (c dB (c Oi (c dP (c dC (c dD (c dE (c Oj (c dQ (c dF (c Oo (c F7 (c F8 (c Fv (c lz n)))))))))))))))))))))))))))))))))))))))))))))
theorem lY:G oU:=r (c BV (c F5 (c y4 (c Ak (c A6 (c BY (c Cc (c Fl (c UY (c AN (c Wk (c AO (c Fm (c AP (c V4 (c AH (c A7 (c SA (c Fv (c l5 n))))))))))))))))))))
theorem g1633:G oX:=r (c OA (c SL (c AC (c l6 n))))
theorem g685:G e685:=r (c lO (c fw (c g684 n)))
theorem g1508:G oH:=r (c g490 (c g982 n))
theorem g1553:G oP:=r (c Wk (c bY (c V4 (c lW (c Fw (c Fx n))))))
theorem g1599:G oS:=r (c Wk (c V4 (c Oi (c Oj (c Fw (c Fx (c lX n)))))))
theorem g1618:G oV:=r (c Wk (c V4 (c Fw (c Fx (c lY n)))))
theorem g1849:G pN:=r (c OA (c SL (c AC (c g685 n))))
end Eng.Tk
end
