/- VeilLoops: runs, part 5 of 6. -/
import Derived.Test.YtmefakjonbblcaaGreatDoorVlAwake
set_option maxRecDepth 100000
namespace Go.Exe.Tryz
open Go Go.Exe
def vl_l4 : List KV := [.mk (.tup [.bool true, .bool true, .bool false, .bool false]) (.bool true), .mk (.tup [.bool true, .bool true, .bool false, .bool true]) (.bool true), .mk (.tup [.bool true, .bool true, .bool true, .bool false]) (.bool true)]
theorem vl_lot4 : chainX vl_ft (gl3 1 2 3) 3000 3 vl_l4 = true := by kernel_rfl
end Go.Exe.Tryz
