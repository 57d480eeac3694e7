import Derived.Test.YtmfkgpfkpnmdnaaGreatDoorPaE
section
namespace Eng
open Go Go.Proofs
set_option maxRecDepth 1000000
theorem UC : wY 4 [(0, 1), (0, 3), (1, 3), (2, 3)] [0, 1, 2, 3] [[0, 1, 2, 3], [0, 2, 1, 3], [2, 0, 1, 3]] [0, 1, 1, 2] = true := by kernel_rfl
theorem UD : wY 4 [(0, 1), (0, 3), (1, 3), (2, 3)] [0, 1, 2, 3] [[0, 1, 2, 3], [0, 2, 1, 3], [2, 0, 1, 3]] [0, 1, 2, 0] = true := by kernel_rfl
theorem UE : wY 4 [(0, 1), (0, 3), (1, 3), (2, 3)] [0, 1, 2, 3] [[0, 1, 2, 3], [0, 2, 1, 3], [2, 0, 1, 3]] [0, 1, 2, 1] = true := by kernel_rfl
theorem UF : wY 4 [(0, 1), (0, 3), (1, 3), (2, 3)] [0, 1, 2, 3] [[0, 1, 2, 3], [0, 2, 1, 3], [2, 0, 1, 3]] [0, 1, 2, 2] = true := by kernel_rfl
theorem UG : wY 4 [(0, 1), (0, 3), (1, 3), (2, 3)] [0, 1, 2, 3] [[0, 1, 2, 3], [0, 2, 1, 3], [2, 0, 1, 3]] [0, 1, 2, 3] = true := by kernel_rfl
end Eng
end
