/- BindRounds: runs, part 11 of 16. -/
import Derived.Test.YtbgehcnapokbmaaGreatDoorBrAwake
set_option maxRecDepth 100000
set_option maxHeartbeats 4000000
namespace Go.Exe.Tryz
open Go Go.Exe
def br_l10 : List KV := [.mk (.tup [.sym 0 .i64 (20) 7, .sym 1 .i64 (7 + 2) 0, .bool false]) (.bool true), .mk (.tup [.sym 0 .i64 (20) 7, .sym 1 .i64 (7 + 2) 0, .bool true]) (.bool true), .mk (.tup [.sym 0 .i64 (20) 7, .sym 1 .i64 (7 + 2) 1, .bool false]) (.bool true), .mk (.tup [.sym 0 .i64 (20) 7, .sym 1 .i64 (7 + 2) 1, .bool true]) (.bool true), .mk (.tup [.sym 0 .i64 (20) 7, .sym 1 .i64 (7 + 2) 2, .bool false]) (.bool true), .mk (.tup [.sym 0 .i64 (20) 7, .sym 1 .i64 (7 + 2) 2, .bool true]) (.bool true), .mk (.tup [.sym 0 .i64 (20) 7, .sym 1 .i64 (7 + 2) 3, .bool false]) (.bool true)]
theorem br_lot10 : chainX br_ft (gl3 0 2 3) 3000 3 br_l10 = true := by kernel_rfl
def br_l26 : List KV := [.mk (.tup [.sym 0 .i64 (20) 12, .sym 1 .i64 (12 + 2) 1, .bool false]) (.bool true), .mk (.tup [.sym 0 .i64 (20) 12, .sym 1 .i64 (12 + 2) 1, .bool true]) (.bool true), .mk (.tup [.sym 0 .i64 (20) 12, .sym 1 .i64 (12 + 2) 2, .bool false]) (.bool true), .mk (.tup [.sym 0 .i64 (20) 12, .sym 1 .i64 (12 + 2) 2, .bool true]) (.bool true), .mk (.tup [.sym 0 .i64 (20) 12, .sym 1 .i64 (12 + 2) 3, .bool false]) (.bool true), .mk (.tup [.sym 0 .i64 (20) 12, .sym 1 .i64 (12 + 2) 3, .bool true]) (.bool true), .mk (.tup [.sym 0 .i64 (20) 12, .sym 1 .i64 (12 + 2) 4, .bool false]) (.bool true)]
theorem br_lot26 : chainX br_ft (gl3 0 2 3) 3000 3 br_l26 = true := by kernel_rfl
def br_l42 : List KV := [.mk (.tup [.sym 0 .i64 (20) 15, .sym 1 .i64 (15 + 2) 12, .bool false]) (.bool true), .mk (.tup [.sym 0 .i64 (20) 15, .sym 1 .i64 (15 + 2) 12, .bool true]) (.bool true), .mk (.tup [.sym 0 .i64 (20) 15, .sym 1 .i64 (15 + 2) 13, .bool false]) (.bool true), .mk (.tup [.sym 0 .i64 (20) 15, .sym 1 .i64 (15 + 2) 13, .bool true]) (.bool true), .mk (.tup [.sym 0 .i64 (20) 15, .sym 1 .i64 (15 + 2) 14, .bool false]) (.bool true), .mk (.tup [.sym 0 .i64 (20) 15, .sym 1 .i64 (15 + 2) 14, .bool true]) (.bool true), .mk (.tup [.sym 0 .i64 (20) 15, .sym 1 .i64 (15 + 2) 15, .bool false]) (.bool true)]
theorem br_lot42 : chainX br_ft (gl3 0 2 3) 3000 3 br_l42 = true := by kernel_rfl
def br_l58 : List KV := [.mk (.tup [.sym 0 .i64 (20) 18, .sym 1 .i64 (18 + 2) 14, .bool false]) (.bool true), .mk (.tup [.sym 0 .i64 (20) 18, .sym 1 .i64 (18 + 2) 14, .bool true]) (.bool true), .mk (.tup [.sym 0 .i64 (20) 18, .sym 1 .i64 (18 + 2) 15, .bool false]) (.bool true), .mk (.tup [.sym 0 .i64 (20) 18, .sym 1 .i64 (18 + 2) 15, .bool true]) (.bool true), .mk (.tup [.sym 0 .i64 (20) 18, .sym 1 .i64 (18 + 2) 16, .bool false]) (.bool true), .mk (.tup [.sym 0 .i64 (20) 18, .sym 1 .i64 (18 + 2) 16, .bool true]) (.bool true), .mk (.tup [.sym 0 .i64 (20) 18, .sym 1 .i64 (18 + 2) 17, .bool false]) (.bool true)]
theorem br_lot58 : chainX br_ft (gl3 0 2 3) 3000 3 br_l58 = true := by kernel_rfl
end Go.Exe.Tryz
