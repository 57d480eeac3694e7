/- A part of the proof. -/
import Derived.Test.YtmgkoomljkbfiaaGreatDoorTabA
section
namespace Eng
open Go Go.Proofs
set_option maxRecDepth 1000000
def len1A : List A := [.c (.sl [[.int .i64 1, .int .i64 0, .str [115, 97, 102, 101]], [.int .i64 2, .int .i64 5, .str [49, 53]]]), .c (.str [115, 97, 102, 101]), .c (.int .i64 1)]
def len1R : List A := [.c (.sl [[.int .i64 15000]]), .c (.bool true)]
theorem ex_len1 : Gives CC 37 len1A len1R :=
  runF_ok mixedT tabR_ok 20 37 _ _ (show runF tabR CC 1000 20 37 len1A = some len1R by kernel_rfl)
end Eng
end
