/- VeilLoops: runs, part 6 of 6. -/
import Derived.Test.YtmefakjonbblcaaGreatDoorVlAwake
set_option maxRecDepth 100000
namespace Go.Exe.Tryz
open Go Go.Exe
def vl_l5 : List KV := [.mk (.tup [.bool true, .bool true, .bool true, .bool true]) (.bool true)]
theorem vl_lot5 : chainX vl_ft (gl3 1 2 3) 3000 3 vl_l5 = true := by kernel_rfl
end Go.Exe.Tryz
