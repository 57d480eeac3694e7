/- Closed runs, printed by a program (gather); each by the kernel. -/
import Derived.Test.YtkkodaemmgpgfaaGreatDoorAwDat
import Derived.Test.YtkkodaemmgpgfaaGreatDoorAw2
import Derived.Test.YtkkodaemmgpgfaaGreatDoorAw4
import Derived.Test.YtkkodaemmgpgfaaGreatDoorAw5
import Derived.Test.YtkkodaemmgpgfaaGreatDoorAw6
import Derived.Test.YtkkodaemmgpgfaaGreatDoorAw8
import Derived.Test.YtkkodaemmgpgfaaGreatDoorAw9
import Derived.Test.YtkkodaemmgpgfaaGreatDoorAw10
import Derived.Test.YtkkodaemmgpgfaaGreatDoorAw12
import Derived.Test.YtkkodaemmgpgfaaGreatDoorAw13
section
namespace Eng.Aw
open Go Go.Proofs
set_option maxRecDepth 1000000
theorem g186 : Gives K3 244 a186 r186 := run1 (es := [e159, e178, e181, e184, e185, e69, e93]) ⟨g159, g178, g181, g184, g185, g69, g93, trivial⟩ (by kernel_rfl)
theorem g223 : Gives K3 244 a223 r223 := run1 (es := [e201, e215, e217, e221, e222, e69, e144]) ⟨g201, g215, g217, g221, g222, g69, g144, trivial⟩ (by kernel_rfl)
theorem g225 : Gives K3 245 a225 r225 := run1 (es := [e181, e217, e224]) ⟨g181, g217, g224, trivial⟩ (by kernel_rfl)
theorem g241 : Gives K3 244 a241 r241 := run1 (es := [e227, e239, e184, e181, e240, e93, e69]) ⟨g227, g239, g184, g181, g240, g93, g69, trivial⟩ (by kernel_rfl)
theorem g261 : Gives K3 244 a261 r261 := run1 (es := [e244, e253, e255, e259, e260, e93, e142]) ⟨g244, g253, g255, g259, g260, g93, g142, trivial⟩ (by kernel_rfl)
theorem g272 : Gives K3 245 a272 r272 := run1 (es := [e184, e255, e271]) ⟨g184, g255, g271, trivial⟩ (by kernel_rfl)
theorem g303 : Gives K3 244 a303 r303 := run1 (es := [e297, e301, e259, e255, e302, e142, e93]) ⟨g297, g301, g259, g255, g302, g142, g93, trivial⟩ (by kernel_rfl)
theorem g317 : Gives K3 244 a317 r317 := run1 (es := [e305, e309, e312, e315, e316, e142, e144]) ⟨g305, g309, g312, g315, g316, g142, g144, trivial⟩ (by kernel_rfl)
theorem g319 : Gives K3 245 a319 r319 := run1 (es := [e259, e312, e318]) ⟨g259, g312, g318, trivial⟩ (by kernel_rfl)
theorem g326 : Gives K3 244 a326 r326 := run1 (es := [e321, e324, e221, e217, e325, e144, e69]) ⟨g321, g324, g221, g217, g325, g144, g69, trivial⟩ (by kernel_rfl)
theorem g340 : Gives K3 244 a340 r340 := run1 (es := [e335, e338, e315, e312, e339, e144, e142]) ⟨g335, g338, g315, g312, g339, g144, g142, trivial⟩ (by kernel_rfl)
theorem g342 : Gives K3 245 a342 r342 := run1 (es := [e221, e315, e341]) ⟨g221, g315, g341, trivial⟩ (by kernel_rfl)
theorem g548 : Gives K3 25 a548 r548 := run1 (es := [e381, e382, e384, e424, e432, e435, e438, e439, e450, e455, e456, e457, e458, e479, e484, e485, e486, e487, e520, e525, e526, e547]) ⟨g381, g382, g384, g424, g432, g435, g438, g439, g450, g455, g456, g457, g458, g479, g484, g485, g486, g487, g520, g525, g526, g547, trivial⟩ (by kernel_rfl)
end Eng.Aw
end
