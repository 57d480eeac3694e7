/- A part of the proof. -/
import Derived.Test.YtmgkoomljkbfiaaGreatDoorAw5
import Derived.Test.YtmgkoomljkbfiaaGreatDoorAw2
import Derived.Test.YtmgkoomljkbfiaaGreatDoorAw3
section
namespace Eng
open Go Go.Proofs
set_option maxRecDepth 1000000
def tab2 : Nat → List A → Option (List A) := tabP 19 [.c (.str exText)] [exS, .c (.int .i64 0), .c (.int .i64 0)] (tabP 8 [exS] [.c (.str exText), .c (.int .i64 0)]
  (tabP 13 [exS, exA, exB, .c (.int .i64 20001)] [.c (.int .i64 8500), .c (.bool true)] (tabP 13 [exS, exA, exB, .c (.int .i64 20000)] [.c (.int .i64 0), .c (.bool false)] tabR)))
theorem tab2_ok : ∀ (f : Nat) (al rs : List A), tab2 f al = some rs → Gives CC f al rs := tabP_ok ex_parse (tabP_ok ex_format (tabP_ok ex_high1 (tabP_ok ex_high2 tabR_ok)))
/-- The example holds. -/
theorem awake_ok : Gives CC 7 [] [.c (.bool true)] :=
  runF_ok mixedT tab2_ok 20 7 _ _ (show runF tab2 CC 1000 20 7 [] = some [.c (.bool true)] by kernel_rfl)
end Eng
end
