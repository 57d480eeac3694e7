/- The example of the chapter: awake. -/
import Derived.Test.YtbehlcfelmbmlaaGreatDoorAwDat
import Derived.Test.YtbehlcfelmbmlaaGreatDoorAw2
section
namespace Eng
open Go Go.Proofs
theorem T4 : qe CC 8 [] [.c (.bool true)] := Zi rfl rfl (show qe K3 8 [] [.c (.bool true)] from Aw.g406)
end Eng
end
