/- ReachCuts: runs, part 3 of 8. -/
import Derived.Test.YtladepjfgjlpoaaGreatDoorRcAwake
set_option maxRecDepth 100000
set_option maxHeartbeats 4000000
namespace Go.Exe.Tryz
open Go Go.Exe
def rc_l2 : List KV := [.mk (.tup [.sym 0 .i64 (8) 2, .bool false]) (.bool true), .mk (.tup [.sym 0 .i64 (8) 2, .bool true]) (.bool true)]
theorem rc_lot2 : chainX rc_ft (gl3 1 2 3) 3000 3 rc_l2 = true := by kernel_rfl
end Go.Exe.Tryz
