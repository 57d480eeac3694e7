/- The verification conditions of functions, printed by a program (vcgen.py) and checked by the kernel. -/
import Derived.Test.YtbehlcfelmbmlaaGreatDoorCtxB
import Derived.Test.YtbehlcfelmbmlaaGreatDoorTxA
import Derived.Test.YtbehlcfelmbmlaaGreatDoorDbE
import Derived.Test.YtbehlcfelmbmlaaGreatDoorDbC
import Derived.Test.YtbehlcfelmbmlaaGreatDoorLexA
import Derived.KernelRfl
open Eng.D renaming bool→Aw, str→Bx, sl→Dd, int→F0
section
namespace Eng
open Go Go.Proofs
set_option maxRecDepth 1000000
theorem NH (Gv:Nat→List A→List A→Prop) (Q:List A→Prop):wpF CC Gv an0 Tryz.f33 [] Q=(
 Q [A.c (Dd [[Bx []],[Bx [112,111,99,107,101,116]],[Bx [105,115,108,97,110,100]],[Bx [104,111,108,101]],[Bx [112,114,111,102,105,108,101]]])]):=by kernel_rfl
end Eng
end

section
open Go Go.Proofs Eng
set_option maxRecDepth 1000000
namespace Eng
theorem L2 (Gv:Nat→List A→List A→Prop) (I0:List D→List D→Prop) (M0:List D→Nat) (l:List (List D)) (Q:List A→Prop):wpF CC Gv (fun _=>⟨[.slot 4 (.int .i64 0),.slot 3 (.string ⟨#[]⟩)],[],I0,M0⟩) Tryz.f35 [.c (.sl l)] Q=(
 I0 [] [F0 .i64 0,Bx []]∧∀(n:Int) (s:List UInt8),I0 [] [F0 .i64 n,Bx s]→br (toB (Aw (decide (n<(Int.ofNat l.length))))) ((0≤n∧n<(Int.ofNat l.length)∧List.length (nth [] l (Int.toNat n))=4)∧∃b es b1 e1,cut (nth [] l (Int.toNat n)) 0 4 [Aw b,Dd es,Aw b1,Dd e1]∧∃b2 e2 b3 e3,Gv 77 [A.ag [Aw b,Dd es,Aw b1,Dd e1]] [A.ag [Aw b2,Dd e2,Aw b3,Dd e3]]∧∃s1 b,Gv 75 [A.ag [Aw b2,Dd e2,Aw b3,Dd e3]] [A.c (Bx s1),A.c (Aw b)]∧room (1+s1.length)∧room (s.length+List.length (32::s1))∧I0 [] [F0 .i64 (IntKind.wrap .i64 (n+1)),Bx (s++32::s1)]∧M0 [F0 .i64 (IntKind.wrap .i64 (n+1)),Bx (s++32::s1)]<M0 [F0 .i64 n,Bx s]) (Q [A.c (Bx s)])):=by kernel_rfl
end Eng
end

section
namespace Eng
open Go Go.Proofs
set_option maxRecDepth 100000
theorem VN:qf CC 33 [] [.c (.sl (vt kw5))]:=by
 refine qg (anns:=an0) mixedT Tryz.func33 ?_;rw[NH];rfl
end Eng
end

section
namespace Eng
open Go Go.Proofs
set_option maxRecDepth 100000
section
variable (t0 t1 t2:Tk) (r:List Tk)
end
end Eng
end

section
namespace Eng
open Go Go.Proofs
set_option maxRecDepth 100000
structure AdI (ls:List Ly) (es:List En):Prop where
 nm:∀l∈ls,l.name.length≤1000
 nb:∀e∈es,NbE e∧e.pts.length≤3
end Eng
end
