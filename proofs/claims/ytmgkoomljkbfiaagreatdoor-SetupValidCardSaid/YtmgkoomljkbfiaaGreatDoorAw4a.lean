/- A part of the proof. -/
import Derived.Test.YtmgkoomljkbfiaaGreatDoorTabA
section
namespace Eng
open Go Go.Proofs
set_option maxRecDepth 1000000
def len0A : List A := [.c (.sl [[.int .i64 1, .int .i64 0, .str [115, 116, 111, 99, 107]], [.int .i64 2, .int .i64 6, .str [48]], [.int .i64 2, .int .i64 8, .str [48]], [.int .i64 2, .int .i64 10, .str [49, 48, 48]], [.int .i64 2, .int .i64 14, .str [54, 48]], [.int .i64 2, .int .i64 17, .str [50, 48]], [.int .i64 2, .int .i64 20, .str [53]]]), .c (.str [115, 116, 111, 99, 107]), .c (.int .i64 6)]
def len0R : List A := [.c (.sl [[.int .i64 0], [.int .i64 0], [.int .i64 100000], [.int .i64 60000], [.int .i64 20000], [.int .i64 5000]]), .c (.bool true)]
theorem ex_len0 : Gives CC 37 len0A len0R :=
  runF_ok mixedT tabR_ok 20 37 _ _ (show runF tabR CC 1000 20 37 len0A = some len0R by kernel_rfl)
end Eng
end
