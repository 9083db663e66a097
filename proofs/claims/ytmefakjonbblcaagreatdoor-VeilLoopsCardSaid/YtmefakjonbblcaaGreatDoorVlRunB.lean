/- VeilLoops: runs, part 2 of 6. -/
import Derived.Test.YtmefakjonbblcaaGreatDoorVlAwake
set_option maxRecDepth 100000
namespace Go.Exe.Tryz
open Go Go.Exe
def vl_l1 : List KV := [.mk (.tup [.bool false, .bool false, .bool true, .bool true]) (.bool true), .mk (.tup [.bool false, .bool true, .bool false, .bool false]) (.bool true), .mk (.tup [.bool false, .bool true, .bool false, .bool true]) (.bool true)]
theorem vl_lot1 : chainX vl_ft (gl3 1 2 3) 3000 3 vl_l1 = true := by kernel_rfl
end Go.Exe.Tryz
