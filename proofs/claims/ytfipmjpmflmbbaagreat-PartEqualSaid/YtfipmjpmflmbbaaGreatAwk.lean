/- The example of the chapter: awake. -/
import Derived.Test.YtfipmjpmflmbbaaGreatAw32
section
namespace Eng
open Go Go.Proofs
theorem Ms:qe CC 7 [] [.c (.bool true)]:=jT rfl rfl (show qe K5 7 [] [.c (.bool true)] from Aw.g1332)
end Eng
end
