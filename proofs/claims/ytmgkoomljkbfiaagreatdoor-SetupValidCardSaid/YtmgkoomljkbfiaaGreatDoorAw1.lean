/- A part of the proof. -/
import Derived.Test.YtmgkoomljkbfiaaGreatDoorTabA
section
namespace Eng
open Go Go.Proofs
set_option maxRecDepth 1000000
theorem ex_lines : Gives CC 36 [.c (.str exText)] exLines :=
  runF_ok mixedT tabR_ok 20 36 _ _ (show runF tabR CC 1000 20 36 [.c (.str exText)] = some exLines by kernel_rfl)
end Eng
end
