/- Closed runs, printed by a program (gather); each by the kernel. -/
import Derived.Test.YtkkodaemmgpgfaaGreatDoorAwDat
import Derived.Test.YtkkodaemmgpgfaaGreatDoorAw8
import Derived.Test.YtkkodaemmgpgfaaGreatDoorAw9
import Derived.Test.YtkkodaemmgpgfaaGreatDoorAw10
import Derived.Test.YtkkodaemmgpgfaaGreatDoorAw11
import Derived.Test.YtkkodaemmgpgfaaGreatDoorAw12
section
namespace Eng.Aw
open Go Go.Proofs
set_option maxRecDepth 1000000
theorem g491 : Gives K3 131 a491 r491 := run1 (es := [e488, e441, e393, e490]) ⟨g488, g441, g393, g490, trivial⟩ (by kernel_rfl)
theorem g519 : Gives K3 131 a519 r519 := run1 (es := [e488, e496, e497, e518]) ⟨g488, g496, g497, g518, trivial⟩ (by kernel_rfl)
theorem g547 : Gives K3 17 a547 r547 := run1 (es := [e527, e533, e534, e535, e540, e543, e544, e545, e546]) ⟨g527, g533, g534, g535, g540, g543, g544, g545, g546, trivial⟩ (by kernel_rfl)
theorem g553 : Gives K3 17 a553 r553 := run1 (es := [e527, e550, e551, e552, e540, e544, e545, e546]) ⟨g527, g550, g551, g552, g540, g544, g545, g546, trivial⟩ (by kernel_rfl)
theorem g584 : Gives K3 131 a584 r584 := run1 (es := [e558, e561, e393, e583]) ⟨g558, g561, g393, g583, trivial⟩ (by kernel_rfl)
theorem g598 : Gives K3 131 a598 r598 := run1 (es := [e558, e590, e497, e597]) ⟨g558, g590, g497, g597, trivial⟩ (by kernel_rfl)
theorem g55 : Gives K3 238 a55 r55 := run1 (es := [e54]) ⟨g54, trivial⟩ (by kernel_rfl)
theorem g58 : Gives K3 238 a58 r58 := run1 (es := [e57]) ⟨g57, trivial⟩ (by kernel_rfl)
theorem g83 : Gives K3 238 a83 r83 := run1 (es := [e82]) ⟨g82, trivial⟩ (by kernel_rfl)
theorem g86 : Gives K3 238 a86 r86 := run1 (es := [e85]) ⟨g85, trivial⟩ (by kernel_rfl)
theorem g100 : Gives K3 238 a100 r100 := run1 (es := [e99]) ⟨g99, trivial⟩ (by kernel_rfl)
theorem g103 : Gives K3 238 a103 r103 := run1 (es := [e102]) ⟨g102, trivial⟩ (by kernel_rfl)
theorem g115 : Gives K3 238 a115 r115 := run1 (es := [e114]) ⟨g114, trivial⟩ (by kernel_rfl)
theorem g118 : Gives K3 238 a118 r118 := run1 (es := [e117]) ⟨g117, trivial⟩ (by kernel_rfl)
theorem g215 : Gives K3 299 a215 r215 := run1 (es := [e214]) ⟨g214, trivial⟩ (by kernel_rfl)
theorem g218 : Gives K3 238 a218 r218 := run1 (es := [e117]) ⟨g117, trivial⟩ (by kernel_rfl)
theorem g239 : Gives K3 299 a239 r239 := run1 (es := [e238]) ⟨g238, trivial⟩ (by kernel_rfl)
theorem g256 : Gives K3 238 a256 r256 := run1 (es := [e99]) ⟨g99, trivial⟩ (by kernel_rfl)
theorem g301 : Gives K3 299 a301 r301 := run1 (es := [e300]) ⟨g300, trivial⟩ (by kernel_rfl)
theorem g310 : Gives K3 238 a310 r310 := run1 (es := [e102]) ⟨g102, trivial⟩ (by kernel_rfl)
theorem g313 : Gives K3 238 a313 r313 := run1 (es := [e114]) ⟨g114, trivial⟩ (by kernel_rfl)
theorem g338 : Gives K3 299 a338 r338 := run1 (es := [e337]) ⟨g337, trivial⟩ (by kernel_rfl)
theorem g368 : Gives K3 178 a368 r368 := run1 (es := [e352, e353, e354, e355, e356, e367]) ⟨g352, g353, g354, g355, g356, g367, trivial⟩ (by kernel_rfl)
theorem g424 : Gives K3 78 a424 r424 := run1 (es := [e386, e423]) ⟨g386, g423, trivial⟩ (by kernel_rfl)
theorem g450 : Gives K3 78 a450 r450 := run1 (es := [e389, e449]) ⟨g389, g449, trivial⟩ (by kernel_rfl)
theorem g471 : Gives K3 132 a471 r471 := run1 (es := [e393, e389, e390, e386, e387, e470]) ⟨g393, g389, g390, g386, g387, g470, trivial⟩ (by kernel_rfl)
theorem g520 : Gives K3 78 a520 r520 := run1 (es := [e488, e491, e492, e494, e495, e519]) ⟨g488, g491, g492, g494, g495, g519, trivial⟩ (by kernel_rfl)
theorem g586 : Gives K3 132 a586 r586 := run1 (es := [e393, e389, e560, e386, e585, e584]) ⟨g393, g389, g560, g386, g585, g584, trivial⟩ (by kernel_rfl)
theorem g599 : Gives K3 132 a599 r599 := run1 (es := [e497, e488, e560, e459, e585, e598]) ⟨g497, g488, g560, g459, g585, g598, trivial⟩ (by kernel_rfl)
theorem g71 : Gives K3 176 a71 r71 := run1 (es := [e36, e40, e41, e55, e58, e70]) ⟨g36, g40, g41, g55, g58, g70, trivial⟩ (by kernel_rfl)
theorem g95 : Gives K3 176 a95 r95 := run1 (es := [e40, e72, e78, e83, e86, e94]) ⟨g40, g72, g78, g83, g86, g94, trivial⟩ (by kernel_rfl)
theorem g111 : Gives K3 176 a111 r111 := run1 (es := [e72, e96, e97, e100, e103, e110]) ⟨g72, g96, g97, g100, g103, g110, trivial⟩ (by kernel_rfl)
theorem g125 : Gives K3 176 a125 r125 := run1 (es := [e96, e36, e112, e115, e118, e124]) ⟨g96, g36, g112, g115, g118, g124, trivial⟩ (by kernel_rfl)
theorem g181 : Gives K3 258 a181 r181 := run1 (es := [e58, e179, e180]) ⟨g58, g179, g180, trivial⟩ (by kernel_rfl)
theorem g184 : Gives K3 258 a184 r184 := run1 (es := [e83, e182, e183]) ⟨g83, g182, g183, trivial⟩ (by kernel_rfl)
theorem g217 : Gives K3 258 a217 r217 := run1 (es := [e55, e216, e179]) ⟨g55, g216, g179, trivial⟩ (by kernel_rfl)
theorem g221 : Gives K3 258 a221 r221 := run1 (es := [e218, e219, e220]) ⟨g218, g219, g220, trivial⟩ (by kernel_rfl)
theorem g255 : Gives K3 258 a255 r255 := run1 (es := [e86, e183, e254]) ⟨g86, g183, g254, trivial⟩ (by kernel_rfl)
theorem g259 : Gives K3 258 a259 r259 := run1 (es := [e256, e257, e258]) ⟨g256, g257, g258, trivial⟩ (by kernel_rfl)
theorem g312 : Gives K3 258 a312 r312 := run1 (es := [e310, e311, e257]) ⟨g310, g311, g257, trivial⟩ (by kernel_rfl)
theorem g315 : Gives K3 258 a315 r315 := run1 (es := [e313, e220, e314]) ⟨g313, g220, g314, trivial⟩ (by kernel_rfl)
theorem g479 : Gives K3 78 a479 r479 := run1 (es := [e459, e470, e471, e478]) ⟨g459, g470, g471, g478, trivial⟩ (by kernel_rfl)
theorem g606 : Gives K3 78 a606 r606 := run1 (es := [e558, e584, e586, e588, e589, e598, e599, e602, e605]) ⟨g558, g584, g586, g588, g589, g598, g599, g602, g605, trivial⟩ (by kernel_rfl)
end Eng.Aw
end
