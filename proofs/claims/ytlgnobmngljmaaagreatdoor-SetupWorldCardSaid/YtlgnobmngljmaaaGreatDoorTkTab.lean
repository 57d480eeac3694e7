/- The first stage's calls, as a table. -/
import Derived.Test.YtlgnobmngljmaaaGreatDoorTkDat
import Derived.Test.YtlgnobmngljmaaaGreatDoorTk1
import Derived.Test.YtlgnobmngljmaaaGreatDoorTk2
import Derived.Test.YtlgnobmngljmaaaGreatDoorTk4
import Derived.Test.YtlgnobmngljmaaaGreatDoorTk5
section
namespace Eng.Tk
variable [Env] [TokOk]
def tabL : List EntH := [e8, e17, e27, e35, e42, e50, e81, e104, e121, e135, e136, e137, e143, e144, e146, e147, e148, e150, e151, e154, e155, e156]
theorem tabL_ok : AllG KT tabL := (c g8 (c g17 (c g27 (c g35 (c g42 (c g50 (c g81 (c g104 (c g121 (c g135 (c g136 (c g137 (c g143 (c g144 (c g146 (c g147 (c g148 (c g150 (c g151 (c g154 (c g155 (c g156 n))))))))))))))))))))))
end Eng.Tk
end
