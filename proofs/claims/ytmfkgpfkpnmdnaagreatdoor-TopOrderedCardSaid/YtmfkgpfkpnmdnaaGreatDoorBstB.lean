import Derived.Test.YtmfkgpfkpnmdnaaGreatDoorPaE
section
namespace Eng
open Go Go.Proofs
set_option maxRecDepth 1000000
theorem c6 : wY 0 [] [] [[]] [] = true := by kernel_rfl
theorem EQ : wY 1 [] [0] [[0]] [0] = true := by kernel_rfl
theorem SF : wY 2 [(0, 1)] [0, 1] [[0, 1]] [0, 0] = true := by kernel_rfl
theorem SG : wY 2 [(0, 1)] [0, 1] [[0, 1]] [0, 1] = true := by kernel_rfl
theorem ND : wY 3 [(0, 1)] [0, 1, 2] [[0, 1, 2], [0, 2, 1], [2, 0, 1]] [0, 0, 0] = true := by kernel_rfl
theorem NE : wY 3 [(0, 1)] [0, 1, 2] [[0, 1, 2], [0, 2, 1], [2, 0, 1]] [0, 0, 1] = true := by kernel_rfl
theorem NF : wY 3 [(0, 1)] [0, 1, 2] [[0, 1, 2], [0, 2, 1], [2, 0, 1]] [0, 1, 0] = true := by kernel_rfl
theorem NG : wY 3 [(0, 1)] [0, 1, 2] [[0, 1, 2], [0, 2, 1], [2, 0, 1]] [0, 1, 1] = true := by kernel_rfl
theorem NH : wY 3 [(0, 1)] [0, 1, 2] [[0, 1, 2], [0, 2, 1], [2, 0, 1]] [0, 1, 2] = true := by kernel_rfl
theorem NI : wY 3 [(0, 1), (0, 2), (1, 2)] [0, 1, 2] [[0, 1, 2]] [0, 0, 0] = true := by kernel_rfl
theorem NJ : wY 3 [(0, 1), (0, 2), (1, 2)] [0, 1, 2] [[0, 1, 2]] [0, 0, 1] = true := by kernel_rfl
theorem NK : wY 3 [(0, 1), (0, 2), (1, 2)] [0, 1, 2] [[0, 1, 2]] [0, 1, 0] = true := by kernel_rfl
theorem NL : wY 3 [(0, 1), (0, 2), (1, 2)] [0, 1, 2] [[0, 1, 2]] [0, 1, 1] = true := by kernel_rfl
theorem NM : wY 3 [(0, 1), (0, 2), (1, 2)] [0, 1, 2] [[0, 1, 2]] [0, 1, 2] = true := by kernel_rfl
end Eng
end
