/- Closed runs, printed by a program (gather); each by the kernel. -/
import Derived.Test.YtkkodaemmgpgfaaGreatDoorAwDat
import Derived.Test.YtkkodaemmgpgfaaGreatDoorAw1
import Derived.Test.YtkkodaemmgpgfaaGreatDoorAw2
import Derived.Test.YtkkodaemmgpgfaaGreatDoorAw6
import Derived.Test.YtkkodaemmgpgfaaGreatDoorAw7
import Derived.Test.YtkkodaemmgpgfaaGreatDoorAw8
import Derived.Test.YtkkodaemmgpgfaaGreatDoorAw9
import Derived.Test.YtkkodaemmgpgfaaGreatDoorAw10
section
namespace Eng.Aw
open Go Go.Proofs
set_option maxRecDepth 1000000
theorem g51 : Gives K3 357 a51 r51 := run1 (es := [e48, e50]) ⟨g48, g50, trivial⟩ (by kernel_rfl)
theorem g70 : Gives K3 239 a70 r70 := run1 (es := [e69]) ⟨g69, trivial⟩ (by kernel_rfl)
theorem g94 : Gives K3 239 a94 r94 := run1 (es := [e93]) ⟨g93, trivial⟩ (by kernel_rfl)
theorem g110 : Gives K3 239 a110 r110 := run1 (es := [e109]) ⟨g109, trivial⟩ (by kernel_rfl)
theorem g124 : Gives K3 239 a124 r124 := run1 (es := [e123]) ⟨g123, trivial⟩ (by kernel_rfl)
theorem g127 : Gives K3 239 a127 r127 := run1 (es := [e126]) ⟨g126, trivial⟩ (by kernel_rfl)
theorem g129 : Gives K3 239 a129 r129 := run1 (es := [e128]) ⟨g128, trivial⟩ (by kernel_rfl)
theorem g131 : Gives K3 239 a131 r131 := run1 (es := [e130]) ⟨g130, trivial⟩ (by kernel_rfl)
theorem g133 : Gives K3 239 a133 r133 := run1 (es := [e132]) ⟨g132, trivial⟩ (by kernel_rfl)
theorem g135 : Gives K3 239 a135 r135 := run1 (es := [e134]) ⟨g134, trivial⟩ (by kernel_rfl)
theorem g137 : Gives K3 239 a137 r137 := run1 (es := [e136]) ⟨g136, trivial⟩ (by kernel_rfl)
theorem g139 : Gives K3 239 a139 r139 := run1 (es := [e138]) ⟨g138, trivial⟩ (by kernel_rfl)
theorem g141 : Gives K3 239 a141 r141 := run1 (es := [e140]) ⟨g140, trivial⟩ (by kernel_rfl)
theorem g143 : Gives K3 239 a143 r143 := run1 (es := [e142]) ⟨g142, trivial⟩ (by kernel_rfl)
theorem g145 : Gives K3 239 a145 r145 := run1 (es := [e144]) ⟨g144, trivial⟩ (by kernel_rfl)
theorem g147 : Gives K3 239 a147 r147 := run1 (es := [e146]) ⟨g146, trivial⟩ (by kernel_rfl)
theorem g149 : Gives K3 239 a149 r149 := run1 (es := [e148]) ⟨g148, trivial⟩ (by kernel_rfl)
theorem g151 : Gives K3 243 a151 r151 := run1 (es := [e69]) ⟨g69, trivial⟩ (by kernel_rfl)
theorem g152 : Gives K3 243 a152 r152 := run1 (es := [e93]) ⟨g93, trivial⟩ (by kernel_rfl)
theorem g154 : Gives K3 243 a154 r154 := run1 (es := [e109, e153]) ⟨g109, g153, trivial⟩ (by kernel_rfl)
theorem g156 : Gives K3 243 a156 r156 := run1 (es := [e123, e155]) ⟨g123, g155, trivial⟩ (by kernel_rfl)
theorem g177 : Gives K3 345 a177 r177 := run1 (es := [e163, e172, e176, e12]) ⟨g163, g172, g176, g12, trivial⟩ (by kernel_rfl)
theorem g179 : Gives K3 301 a179 r179 := run1 (es := [e69]) ⟨g69, trivial⟩ (by kernel_rfl)
theorem g180 : Gives K3 301 a180 r180 := run1 (es := [e132, e69]) ⟨g132, g69, trivial⟩ (by kernel_rfl)
theorem g182 : Gives K3 301 a182 r182 := run1 (es := [e132, e93]) ⟨g132, g93, trivial⟩ (by kernel_rfl)
theorem g183 : Gives K3 301 a183 r183 := run1 (es := [e93]) ⟨g93, trivial⟩ (by kernel_rfl)
theorem g198 : Gives K3 244 a198 r198 := run1 (es := [e191, e196, e69, e142]) ⟨g191, g196, g69, g142, trivial⟩ (by kernel_rfl)
theorem g212 : Gives K3 367 a212 r212 := run1 (es := [e211]) ⟨g211, trivial⟩ (by kernel_rfl)
theorem g216 : Gives K3 301 a216 r216 := run1 (es := [e126, e69]) ⟨g126, g69, trivial⟩ (by kernel_rfl)
theorem g219 : Gives K3 301 a219 r219 := run1 (es := [e126, e144]) ⟨g126, g144, trivial⟩ (by kernel_rfl)
theorem g220 : Gives K3 301 a220 r220 := run1 (es := [e144]) ⟨g144, trivial⟩ (by kernel_rfl)
theorem g236 : Gives K3 367 a236 r236 := run1 (es := [e235]) ⟨g235, trivial⟩ (by kernel_rfl)
theorem g252 : Gives K3 345 a252 r252 := run1 (es := [e247, e172, e19]) ⟨g247, g172, g19, trivial⟩ (by kernel_rfl)
theorem g254 : Gives K3 301 a254 r254 := run1 (es := [e140, e93]) ⟨g140, g93, trivial⟩ (by kernel_rfl)
theorem g257 : Gives K3 301 a257 r257 := run1 (es := [e142]) ⟨g142, trivial⟩ (by kernel_rfl)
theorem g258 : Gives K3 301 a258 r258 := run1 (es := [e140, e142]) ⟨g140, g142, trivial⟩ (by kernel_rfl)
theorem g270 : Gives K3 244 a270 r270 := run1 (es := [e264, e268, e269, e93, e144]) ⟨g264, g268, g269, g93, g144, trivial⟩ (by kernel_rfl)
theorem g295 : Gives K3 244 a295 r295 := run1 (es := [e275, e278, e279, e142, e69]) ⟨g275, g278, g279, g142, g69, trivial⟩ (by kernel_rfl)
theorem g308 : Gives K3 345 a308 r308 := run1 (es := [e307, e266, e176, e172, e24]) ⟨g307, g266, g176, g172, g24, trivial⟩ (by kernel_rfl)
theorem g311 : Gives K3 301 a311 r311 := run1 (es := [e148, e142]) ⟨g148, g142, trivial⟩ (by kernel_rfl)
theorem g314 : Gives K3 301 a314 r314 := run1 (es := [e148, e144]) ⟨g148, g144, trivial⟩ (by kernel_rfl)
theorem g323 : Gives K3 345 a323 r323 := run1 (es := [e322, e176, e11]) ⟨g322, g176, g11, trivial⟩ (by kernel_rfl)
theorem g333 : Gives K3 244 a333 r333 := run1 (es := [e328, e331, e332, e144, e93]) ⟨g328, g331, g332, g144, g93, trivial⟩ (by kernel_rfl)
theorem g352 : Gives K3 240 a352 r352 := run1 (es := [e128]) ⟨g128, trivial⟩ (by kernel_rfl)
theorem g353 : Gives K3 240 a353 r353 := run1 (es := [e136]) ⟨g136, trivial⟩ (by kernel_rfl)
theorem g354 : Gives K3 240 a354 r354 := run1 (es := [e123]) ⟨g123, trivial⟩ (by kernel_rfl)
theorem g355 : Gives K3 240 a355 r355 := run1 (es := [e69]) ⟨g69, trivial⟩ (by kernel_rfl)
theorem g356 : Gives K3 240 a356 r356 := run1 (es := [e144]) ⟨g144, trivial⟩ (by kernel_rfl)
theorem g359 : Gives K3 341 a359 r359 := run1 (es := [e358]) ⟨g358, trivial⟩ (by kernel_rfl)
theorem g365 : Gives K3 341 a365 r365 := run1 (es := [e361, e364, e50]) ⟨g361, g364, g50, trivial⟩ (by kernel_rfl)
theorem g421 : Gives K3 251 a421 r421 := run1 (es := [e400, e405, e417, e399, e418, e420]) ⟨g400, g405, g417, g399, g418, g420, trivial⟩ (by kernel_rfl)
theorem g447 : Gives K3 251 a447 r447 := run1 (es := [e442, e446, e400, e417, e399, e418, e420]) ⟨g442, g446, g400, g417, g399, g418, g420, trivial⟩ (by kernel_rfl)
theorem g468 : Gives K3 251 a468 r468 := run1 (es := [e400, e405, e442, e463, e399, e465, e466]) ⟨g400, g405, g442, g463, g399, g465, g466, trivial⟩ (by kernel_rfl)
theorem g489 : Gives K3 251 a489 r489 := run1 (es := [e442, e446, e463, e399, e465, e466]) ⟨g442, g446, g463, g399, g465, g466, trivial⟩ (by kernel_rfl)
theorem g517 : Gives K3 251 a517 r517 := run1 (es := [e442, e446, e506, e513, e514, e516, e420]) ⟨g442, g446, g506, g513, g514, g516, g420, trivial⟩ (by kernel_rfl)
end Eng.Aw
end
