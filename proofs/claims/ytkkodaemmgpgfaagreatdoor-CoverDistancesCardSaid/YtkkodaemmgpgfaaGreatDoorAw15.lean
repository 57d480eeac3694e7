/- Closed runs, printed by a program (gather); each by the kernel. -/
import Derived.Test.YtkkodaemmgpgfaaGreatDoorAwDat
import Derived.Test.YtkkodaemmgpgfaaGreatDoorAw8
import Derived.Test.YtkkodaemmgpgfaaGreatDoorAw9
import Derived.Test.YtkkodaemmgpgfaaGreatDoorAw10
import Derived.Test.YtkkodaemmgpgfaaGreatDoorAw11
import Derived.Test.YtkkodaemmgpgfaaGreatDoorAw12
import Derived.Test.YtkkodaemmgpgfaaGreatDoorAw13
import Derived.Test.YtkkodaemmgpgfaaGreatDoorAw14
section
namespace Eng.Aw
open Go Go.Proofs
set_option maxRecDepth 1000000
theorem g554 : Gives K3 25 a554 r554 := run1 (es := [e435, e438, e439, e450, e455, e456, e457, e458, e479, e484, e485, e486, e487, e520, e525, e526, e553]) ⟨g435, g438, g439, g450, g455, g456, g457, g458, g479, g484, g485, g486, g487, g520, g525, g526, g553, trivial⟩ (by kernel_rfl)
theorem g607 : Gives K3 25 a607 r607 := run1 (es := [e381, e382, e384, e424, e432, e435, e555, e556, e606]) ⟨g381, g382, g384, g424, g432, g435, g555, g556, g606, trivial⟩ (by kernel_rfl)
theorem g343 : Gives K3 181 a343 r343 := run1 (es := [e151, e152, e154, e156, e186, e198, e223, e225, e241, e261, e270, e272, e295, e303, e317, e319, e326, e333, e340, e342]) ⟨g151, g152, g154, g156, g186, g198, g223, g225, g241, g261, g270, g272, g295, g303, g317, g319, g326, g333, g340, g342, trivial⟩ (by kernel_rfl)
theorem g369 : Gives K3 122 a369 r369 := run1 (es := [e71, e95, e111, e125, e150, e343, e350, e351, e368]) ⟨g71, g95, g111, g125, g150, g343, g350, g351, g368, trivial⟩ (by kernel_rfl)
theorem g370 : Gives K3 96 a370 r370 := run1 (es := [e28, e369]) ⟨g28, g369, trivial⟩ (by kernel_rfl)
theorem g371 : Gives K3 40 a371 r371 := run1 (es := [e370]) ⟨g370, trivial⟩ (by kernel_rfl)
theorem g608 : Gives K3 9 a608 r608 := run1 (es := [e371, e374, e376, e378, e380, e548, e554, e607, e294]) ⟨g371, g374, g376, g378, g380, g548, g554, g607, g294, trivial⟩ (by kernel_rfl)
end Eng.Aw
end
