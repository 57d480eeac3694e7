/- A part of the proof. -/
import Derived.Test.YtmgkoomljkbfiaaGreatDoorTabA
section
namespace Eng
open Go Go.Proofs
set_option maxRecDepth 1000000
theorem ex_format : Gives CC 8 [exS] [.c (.str exText), .c (.int .i64 0)] :=
  runF_ok mixedT tabR_ok 20 8 _ _ (show runF tabR CC 1000 20 8 [exS] = some [.c (.str exText), .c (.int .i64 0)] by kernel_rfl)
end Eng
end
