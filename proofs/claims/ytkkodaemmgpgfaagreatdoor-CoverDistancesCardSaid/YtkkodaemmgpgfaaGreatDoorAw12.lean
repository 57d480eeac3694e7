/- Closed runs, printed by a program (gather); each by the kernel. -/
import Derived.Test.YtkkodaemmgpgfaaGreatDoorAwDat
import Derived.Test.YtkkodaemmgpgfaaGreatDoorAw1
import Derived.Test.YtkkodaemmgpgfaaGreatDoorAw4
import Derived.Test.YtkkodaemmgpgfaaGreatDoorAw5
import Derived.Test.YtkkodaemmgpgfaaGreatDoorAw7
import Derived.Test.YtkkodaemmgpgfaaGreatDoorAw8
import Derived.Test.YtkkodaemmgpgfaaGreatDoorAw9
import Derived.Test.YtkkodaemmgpgfaaGreatDoorAw10
import Derived.Test.YtkkodaemmgpgfaaGreatDoorAw11
section
namespace Eng.Aw
open Go Go.Proofs
set_option maxRecDepth 1000000
theorem g532 : Gives K3 113 a532 r532 := run1 (es := [e528, e529, e530, e531]) ⟨g528, g529, g530, g531, trivial⟩ (by kernel_rfl)
theorem g549 : Gives K3 113 a549 r549 := run1 (es := [e529, e530, e531]) ⟨g529, g530, g531, trivial⟩ (by kernel_rfl)
theorem g582 : Gives K3 251 a582 r582 := run1 (es := [e569, e574, e578, e399, e579, e580, e581]) ⟨g569, g574, g578, g399, g579, g580, g581, trivial⟩ (by kernel_rfl)
theorem g596 : Gives K3 251 a596 r596 := run1 (es := [e569, e574, e593, e513, e594, e595, e581]) ⟨g569, g574, g593, g513, g594, g595, g581, trivial⟩ (by kernel_rfl)
theorem g52 : Gives K3 317 a52 r52 := run1 (es := [e51]) ⟨g51, trivial⟩ (by kernel_rfl)
theorem g56 : Gives K3 317 a56 r56 := run1 (es := [e51]) ⟨g51, trivial⟩ (by kernel_rfl)
theorem g81 : Gives K3 317 a81 r81 := run1 (es := [e51]) ⟨g51, trivial⟩ (by kernel_rfl)
theorem g84 : Gives K3 317 a84 r84 := run1 (es := [e51]) ⟨g51, trivial⟩ (by kernel_rfl)
theorem g98 : Gives K3 317 a98 r98 := run1 (es := [e51]) ⟨g51, trivial⟩ (by kernel_rfl)
theorem g101 : Gives K3 317 a101 r101 := run1 (es := [e51]) ⟨g51, trivial⟩ (by kernel_rfl)
theorem g113 : Gives K3 317 a113 r113 := run1 (es := [e51]) ⟨g51, trivial⟩ (by kernel_rfl)
theorem g116 : Gives K3 317 a116 r116 := run1 (es := [e51]) ⟨g51, trivial⟩ (by kernel_rfl)
theorem g150 : Gives K3 177 a150 r150 := run1 (es := [e127, e129, e131, e124, e70, e133, e135, e137, e139, e94, e141, e143, e145, e147, e110, e149]) ⟨g127, g129, g131, g124, g70, g133, g135, g137, g139, g94, g141, g143, g145, g147, g110, g149, trivial⟩ (by kernel_rfl)
theorem g178 : Gives K3 299 a178 r178 := run1 (es := [e177]) ⟨g177, trivial⟩ (by kernel_rfl)
theorem g213 : Gives K3 376 a213 r213 := run1 (es := [e212]) ⟨g212, trivial⟩ (by kernel_rfl)
theorem g224 : Gives K3 300 a224 r224 := run1 (es := [e179, e180, e133, e216, e127]) ⟨g179, g180, g133, g216, g127, trivial⟩ (by kernel_rfl)
theorem g237 : Gives K3 376 a237 r237 := run1 (es := [e236]) ⟨g236, trivial⟩ (by kernel_rfl)
theorem g253 : Gives K3 299 a253 r253 := run1 (es := [e252]) ⟨g252, trivial⟩ (by kernel_rfl)
theorem g271 : Gives K3 300 a271 r271 := run1 (es := [e183, e182, e133, e254, e141]) ⟨g183, g182, g133, g254, g141, trivial⟩ (by kernel_rfl)
theorem g309 : Gives K3 299 a309 r309 := run1 (es := [e308]) ⟨g308, trivial⟩ (by kernel_rfl)
theorem g318 : Gives K3 300 a318 r318 := run1 (es := [e257, e258, e141, e311, e149]) ⟨g257, g258, g141, g311, g149, trivial⟩ (by kernel_rfl)
theorem g324 : Gives K3 299 a324 r324 := run1 (es := [e323]) ⟨g323, trivial⟩ (by kernel_rfl)
theorem g341 : Gives K3 300 a341 r341 := run1 (es := [e220, e219, e127, e314, e149]) ⟨g220, g219, g127, g314, g149, trivial⟩ (by kernel_rfl)
theorem g351 : Gives K3 179 a351 r351 := run1 (es := [e70, e133, e135, e137, e159, e139, e94, e141, e143, e145, e147, e110, e149, e335]) ⟨g70, g133, g135, g137, g159, g139, g94, g141, g143, g145, g147, g110, g149, g335, trivial⟩ (by kernel_rfl)
theorem g366 : Gives K3 294 a366 r366 := run1 (es := [e127, e359, e365]) ⟨g127, g359, g365, trivial⟩ (by kernel_rfl)
theorem g422 : Gives K3 188 a422 r422 := run1 (es := [e421]) ⟨g421, trivial⟩ (by kernel_rfl)
theorem g448 : Gives K3 188 a448 r448 := run1 (es := [e447]) ⟨g447, trivial⟩ (by kernel_rfl)
theorem g469 : Gives K3 188 a469 r469 := run1 (es := [e468]) ⟨g468, trivial⟩ (by kernel_rfl)
theorem g490 : Gives K3 188 a490 r490 := run1 (es := [e489]) ⟨g489, trivial⟩ (by kernel_rfl)
theorem g518 : Gives K3 188 a518 r518 := run1 (es := [e517]) ⟨g517, trivial⟩ (by kernel_rfl)
theorem g533 : Gives K3 58 a533 r533 := run1 (es := [e532]) ⟨g532, trivial⟩ (by kernel_rfl)
theorem g550 : Gives K3 58 a550 r550 := run1 (es := [e549]) ⟨g549, trivial⟩ (by kernel_rfl)
theorem g583 : Gives K3 188 a583 r583 := run1 (es := [e582]) ⟨g582, trivial⟩ (by kernel_rfl)
theorem g597 : Gives K3 188 a597 r597 := run1 (es := [e596]) ⟨g596, trivial⟩ (by kernel_rfl)
theorem g54 : Gives K3 265 a54 r54 := run1 (es := [e52]) ⟨g52, trivial⟩ (by kernel_rfl)
theorem g57 : Gives K3 265 a57 r57 := run1 (es := [e56]) ⟨g56, trivial⟩ (by kernel_rfl)
theorem g82 : Gives K3 265 a82 r82 := run1 (es := [e81]) ⟨g81, trivial⟩ (by kernel_rfl)
theorem g85 : Gives K3 265 a85 r85 := run1 (es := [e84]) ⟨g84, trivial⟩ (by kernel_rfl)
theorem g99 : Gives K3 265 a99 r99 := run1 (es := [e98]) ⟨g98, trivial⟩ (by kernel_rfl)
theorem g102 : Gives K3 265 a102 r102 := run1 (es := [e101]) ⟨g101, trivial⟩ (by kernel_rfl)
theorem g114 : Gives K3 265 a114 r114 := run1 (es := [e113]) ⟨g113, trivial⟩ (by kernel_rfl)
theorem g117 : Gives K3 265 a117 r117 := run1 (es := [e116]) ⟨g116, trivial⟩ (by kernel_rfl)
theorem g214 : Gives K3 345 a214 r214 := run1 (es := [e204, e213, e11]) ⟨g204, g213, g11, trivial⟩ (by kernel_rfl)
theorem g238 : Gives K3 345 a238 r238 := run1 (es := [e229, e237, e213, e12]) ⟨g229, g237, g213, g12, trivial⟩ (by kernel_rfl)
theorem g300 : Gives K3 345 a300 r300 := run1 (es := [e298, e237, e19]) ⟨g298, g237, g19, trivial⟩ (by kernel_rfl)
theorem g337 : Gives K3 345 a337 r337 := run1 (es := [e336, e266, e213, e237, e24]) ⟨g336, g266, g213, g237, g24, trivial⟩ (by kernel_rfl)
theorem g367 : Gives K3 240 a367 r367 := run1 (es := [e126, e366]) ⟨g126, g366, trivial⟩ (by kernel_rfl)
theorem g423 : Gives K3 131 a423 r423 := run1 (es := [e386, e391, e393, e422]) ⟨g386, g391, g393, g422, trivial⟩ (by kernel_rfl)
theorem g449 : Gives K3 131 a449 r449 := run1 (es := [e389, e441, e393, e448]) ⟨g389, g441, g393, g448, trivial⟩ (by kernel_rfl)
theorem g470 : Gives K3 131 a470 r470 := run1 (es := [e459, e391, e393, e469]) ⟨g459, g391, g393, g469, trivial⟩ (by kernel_rfl)
end Eng.Aw
end
