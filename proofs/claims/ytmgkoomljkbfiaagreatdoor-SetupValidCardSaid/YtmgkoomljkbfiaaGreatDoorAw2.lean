/- A part of the proof. -/
import Derived.Test.YtmgkoomljkbfiaaGreatDoorTabA
section
namespace Eng
open Go Go.Proofs
set_option maxRecDepth 1000000
theorem ex_high1 : Gives CC 13 [exS, exA, exB, .c (.int .i64 20001)] [.c (.int .i64 8500), .c (.bool true)] :=
  runF_ok mixedT tabR_ok 20 13 _ _ (show runF tabR CC 1000 20 13 [exS, exA, exB, .c (.int .i64 20001)] = some [.c (.int .i64 8500), .c (.bool true)] by kernel_rfl)
theorem ex_high2 : Gives CC 13 [exS, exA, exB, .c (.int .i64 20000)] [.c (.int .i64 0), .c (.bool false)] :=
  runF_ok mixedT tabR_ok 20 13 _ _ (show runF tabR CC 1000 20 13 [exS, exA, exB, .c (.int .i64 20000)] = some [.c (.int .i64 0), .c (.bool false)] by kernel_rfl)
end Eng
end
