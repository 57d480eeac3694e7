/- The verification conditions of functions, printed by a program (vcgen.py) and checked by the kernel. -/
import Derived.Test.YtbehlcfelmbmlaaGreatDoorCtxB
import Derived.Test.YtbehlcfelmbmlaaGreatDoorTxA
import Derived.Test.YtbehlcfelmbmlaaGreatDoorDbB
import Derived.Test.YtbehlcfelmbmlaaGreatDoorLexA
import Derived.KernelRfl
section
namespace Eng
open Go Go.Proofs
set_option maxRecDepth 1000000
end Eng
end

section
namespace Eng
open Go Go.Proofs
set_option maxRecDepth 100000
end Eng
end

section
namespace Eng
open Go Go.Proofs
set_option maxRecDepth 100000
end Eng
end

section
open Go Go.Proofs Eng
set_option maxRecDepth 1000000
namespace Eng
end Eng
end

section
namespace Eng
open Go Go.Proofs
set_option maxRecDepth 100000
end Eng
end

section
namespace Eng
open Go Go.Proofs
set_option maxRecDepth 100000
section
variable {s:List UInt8} {i:Nat} {out:List Tk}
end
end Eng
end

section
namespace Eng
open Go Go.Proofs
set_option maxRecDepth 100000
end Eng
end

section
namespace Eng
open Go Go.Proofs
set_option maxRecDepth 100000
end Eng
end
