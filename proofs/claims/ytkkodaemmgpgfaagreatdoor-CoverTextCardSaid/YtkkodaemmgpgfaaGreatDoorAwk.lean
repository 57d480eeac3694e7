/- The example of the chapter: awake. -/
import Derived.Test.YtkkodaemmgpgfaaGreatDoorAwDat
import Derived.Test.YtkkodaemmgpgfaaGreatDoorAw14
section
namespace Eng
open Go Go.Proofs
theorem awake_ok : Gives CC 9 [] [.c (.bool true)] := gives_cx rfl rfl (show Gives K3 9 [] [.c (.bool true)] from Aw.g608)
end Eng
end
