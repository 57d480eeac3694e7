import Derived.Test.YthpplhmhgcenkaaGreatDoorCtG
section
namespace Eng.Tk
open Go Go.Proofs
set_option maxRecDepth 1000000
variable [Env] [xx] [BdOk]
theorem SB:G pQ:=r2 n
theorem SC:G pT:=r2 n
theorem cY:G rt:=r2 n
theorem cZ:G rB:=r2 n
theorem da:G rC:=r2 n
theorem db:G rD:=r2 n
theorem SD:G rE:=r2 (c UT (c S4 n))
theorem SE:G rG:=r2 (c l9 n)
theorem SF:G rF:=r2 (c SD n)
theorem SG:G pR:=r2 (c BZ (c SB n))
theorem FN:G pS:=r2 (c BZ n)
theorem Ot:G pU:=r2 (c O9 n)
theorem FO:G pW:=r2 (c O9 n)
theorem FP:G pZ:=r2 (c AK n)
theorem FQ:G re:=r2 (c BZ n)
theorem FR:G rh:=r2 (c O9 n)
theorem de:G rH:=r2 (c Ta (c Wn (c SF n)))
theorem lZ:G rK:=r2 (c cC (c Ta (c Wn n)))
theorem ma:G rM:=r2 (c Ta (c Wn (c g359 (c SD (c SF (c SE n))))))
theorem SH:G pV:=r2 (c g217 (c g225 (c SC (c Ot n))))
theorem FS:G pX:=r2 (c SG n)
theorem df:G rd:=r2 (c O8 (c Tb (c Tc (c fW (c fQ (c Ot (c FP n)))))))
theorem FU:G rl:=r2 (c O8 (c Tb n))
theorem FV:G rn:=r2 (c O8 (c Tc n))
theorem mb:G ru:=r3 (c O8 (c Tb (c Tc (c fL (c dG (c mG (c dH (c mI (c mK (c Ot (c FQ (c FR (c cY n)))))))))))))
theorem dg:G r7:=r2 (c O8 (c Tb (c Tc (c Ot (c FP n)))))
theorem mc:G rJ:=r2 (c SD (c SE (c de n)))
end Eng.Tk
end
