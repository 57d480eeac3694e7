import Derived.Test.YtmfkgpfkpnmdnaaGreatDoorPaE
section
namespace Eng
open Go Go.Proofs
set_option maxRecDepth 1000000
theorem U1 : wY 4 [(0, 1), (0, 3), (1, 3), (2, 3)] [0, 1, 2, 3] [[0, 1, 2, 3], [0, 2, 1, 3], [2, 0, 1, 3]] [0, 0, 0, 0] = true := by kernel_rfl
theorem U2 : wY 4 [(0, 1), (0, 3), (1, 3), (2, 3)] [0, 1, 2, 3] [[0, 1, 2, 3], [0, 2, 1, 3], [2, 0, 1, 3]] [0, 0, 0, 1] = true := by kernel_rfl
theorem U4 : wY 4 [(0, 1), (0, 3), (1, 3), (2, 3)] [0, 1, 2, 3] [[0, 1, 2, 3], [0, 2, 1, 3], [2, 0, 1, 3]] [0, 0, 1, 0] = true := by kernel_rfl
theorem U5 : wY 4 [(0, 1), (0, 3), (1, 3), (2, 3)] [0, 1, 2, 3] [[0, 1, 2, 3], [0, 2, 1, 3], [2, 0, 1, 3]] [0, 0, 1, 1] = true := by kernel_rfl
theorem U6 : wY 4 [(0, 1), (0, 3), (1, 3), (2, 3)] [0, 1, 2, 3] [[0, 1, 2, 3], [0, 2, 1, 3], [2, 0, 1, 3]] [0, 0, 1, 2] = true := by kernel_rfl
end Eng
end
