/- The example of the chapter: awake. -/
import Derived.Test.YtbehlcfelmbmlaaGreatDoorAwDat
import Derived.Test.YtbehlcfelmbmlaaGreatDoorAw2
section
namespace Eng
open Go Go.Proofs
theorem awake_ok : Gives CC 8 [] [.c (.bool true)] := gives_cx rfl rfl (show Gives K3 8 [] [.c (.bool true)] from Aw.g406)
end Eng
end
