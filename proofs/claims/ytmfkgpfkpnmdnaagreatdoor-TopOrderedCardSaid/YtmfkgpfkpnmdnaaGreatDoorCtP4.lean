import Derived.Test.YtmfkgpfkpnmdnaaGreatDoorCtP
import Derived.KernelRfl
section
namespace Eng
open Go Go.Proofs
set_option maxRecDepth 1000000
theorem SQ : PcR 4 := by unfold PcR; kernel_rfl
end Eng
end
