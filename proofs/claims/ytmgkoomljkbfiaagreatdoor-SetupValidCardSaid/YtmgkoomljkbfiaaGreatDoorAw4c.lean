/- A part of the proof. -/
import Derived.Test.YtmgkoomljkbfiaaGreatDoorTabA
section
namespace Eng
open Go Go.Proofs
set_option maxRecDepth 1000000
def len2A : List A := [.c (.sl [[.int .i64 1, .int .i64 0, .str [99, 108, 97, 109, 112]], [.int .i64 2, .int .i64 6, .str [48]], [.int .i64 2, .int .i64 8, .str [48]], [.int .i64 2, .int .i64 10, .str [49, 48]], [.int .i64 2, .int .i64 13, .str [49, 48]], [.int .i64 2, .int .i64 16, .str [56, 46, 53]]]), .c (.str [99, 108, 97, 109, 112]), .c (.int .i64 5)]
def len2R : List A := [.c (.sl [[.int .i64 0], [.int .i64 0], [.int .i64 10000], [.int .i64 10000], [.int .i64 8500]]), .c (.bool true)]
theorem ex_len2 : Gives CC 37 len2A len2R :=
  runF_ok mixedT tabR_ok 20 37 _ _ (show runF tabR CC 1000 20 37 len2A = some len2R by kernel_rfl)
end Eng
end
