import Derived.Test.YtmfkgpfkpnmdnaaGreatDoorCtP
import Derived.KernelRfl
section
namespace Eng
open Go Go.Proofs
set_option maxRecDepth 1000000
theorem SP : PcR 3 := by unfold PcR; kernel_rfl
end Eng
end
