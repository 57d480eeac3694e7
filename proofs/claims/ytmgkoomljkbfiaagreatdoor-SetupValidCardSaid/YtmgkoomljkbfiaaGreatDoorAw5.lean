/- A part of the proof. -/
import Derived.Test.YtmgkoomljkbfiaaGreatDoorAw1
import Derived.Test.YtmgkoomljkbfiaaGreatDoorAw4a
import Derived.Test.YtmgkoomljkbfiaaGreatDoorAw4b
import Derived.Test.YtmgkoomljkbfiaaGreatDoorAw4c
section
namespace Eng
open Go Go.Proofs
set_option maxRecDepth 1000000
def tab1 : Nat → List A → Option (List A) := tabP 36 [.c (.str exText)] exLines (tabP 37 len0A len0R (tabP 37 len1A len1R (tabP 37 len2A len2R tabR)))
theorem tab1_ok : ∀ (f : Nat) (al rs : List A), tab1 f al = some rs → Gives CC f al rs := tabP_ok ex_lines (tabP_ok ex_len0 (tabP_ok ex_len1 (tabP_ok ex_len2 tabR_ok)))
theorem ex_parse : Gives CC 19 [.c (.str exText)] [exS, .c (.int .i64 0), .c (.int .i64 0)] :=
  runF_ok mixedT tab1_ok 20 19 _ _ (show runF tab1 CC 1000 20 19 [.c (.str exText)] = some [exS, .c (.int .i64 0), .c (.int .i64 0)] by kernel_rfl)
end Eng
end
