import Derived.Test.YtkaghlcopjaclaaGreatDoorSqP
section
namespace Eng
open Go Go.Proofs
set_option maxRecDepth 100000
theorem EY:qa CC 5 [] [.c (.bool true)]:=by
  refine EZ rQ ?_
  rw [show zM [clE (-1) (-1) 0 0] = [fcE] by kernel_rfl]
  exact zb (C := CF) rfl rfl fmtF
end Eng
end
