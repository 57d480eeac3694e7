/- The example of the chapter: awake. -/
import Derived.Test.YtfipmjpmflmbbaaGreatDAw32
section
namespace Eng
open Go Go.Proofs
theorem DX:qc CC 7 [] [.c (.bool true)]:=wl rfl rfl (show qc K5 7 [] [.c (.bool true)] from Aw.g1332)
end Eng
end
