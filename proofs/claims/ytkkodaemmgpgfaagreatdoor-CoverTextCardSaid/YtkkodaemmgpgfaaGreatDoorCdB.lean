/- The law CoverDistances: Far and Near (the program's and the reference's). -/
import Derived.Test.YtkkodaemmgpgfaaGreatDoorCdA
section
namespace Eng
open Go Go.Proofs
set_option maxRecDepth 100000
end Eng
end
