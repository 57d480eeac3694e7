import Derived.Test.YtkaghlcopjaclaaGreatDoorAwkP
import Derived.Test.YtkaghlcopjaclaaGreatDoorSq10
section
namespace Eng
open Go Go.Proofs
set_option maxRecDepth 1000000
theorem rQ:qa CC 16 [.c (.int .i64 0),.c (.int .i64 0),.c (.int .i64 2)] [.ag [.sl (kUs sqC)]]:=by
 have h:qa CB 16 [.c (.int .i64 0),.c (.int .i64 0),.c (.int .i64 2)] _:=Sq.g332;have e:Sq.e332.2.2.2=[A.ag [.sl (kUs sqC)]]:=by kernel_rfl
 exact zb (C:=CB) (C':=CC) rfl rfl (e▸h)
end Eng
end
