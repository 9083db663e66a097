/- BindRounds: runs, part 5 of 16. -/
import Derived.Test.YtbgehcnapokbmaaGreatDoorBrAwake
set_option maxRecDepth 100000
set_option maxHeartbeats 4000000
namespace Go.Exe.Tryz
open Go Go.Exe
def br_l4 : List KV := [.mk (.tup [.sym 0 .i64 (20) 4, .sym 1 .i64 (4 + 2) 0, .bool false]) (.bool true), .mk (.tup [.sym 0 .i64 (20) 4, .sym 1 .i64 (4 + 2) 0, .bool true]) (.bool true), .mk (.tup [.sym 0 .i64 (20) 4, .sym 1 .i64 (4 + 2) 1, .bool false]) (.bool true), .mk (.tup [.sym 0 .i64 (20) 4, .sym 1 .i64 (4 + 2) 1, .bool true]) (.bool true), .mk (.tup [.sym 0 .i64 (20) 4, .sym 1 .i64 (4 + 2) 2, .bool false]) (.bool true), .mk (.tup [.sym 0 .i64 (20) 4, .sym 1 .i64 (4 + 2) 2, .bool true]) (.bool true), .mk (.tup [.sym 0 .i64 (20) 4, .sym 1 .i64 (4 + 2) 3, .bool false]) (.bool true)]
theorem br_lot4 : chainX br_ft (gl3 0 2 3) 3000 3 br_l4 = true := by kernel_rfl
def br_l20 : List KV := [.mk (.tup [.sym 0 .i64 (20) 10, .sym 1 .i64 (10 + 2) 5, .bool false]) (.bool true), .mk (.tup [.sym 0 .i64 (20) 10, .sym 1 .i64 (10 + 2) 5, .bool true]) (.bool true), .mk (.tup [.sym 0 .i64 (20) 10, .sym 1 .i64 (10 + 2) 6, .bool false]) (.bool true), .mk (.tup [.sym 0 .i64 (20) 10, .sym 1 .i64 (10 + 2) 6, .bool true]) (.bool true), .mk (.tup [.sym 0 .i64 (20) 10, .sym 1 .i64 (10 + 2) 7, .bool false]) (.bool true), .mk (.tup [.sym 0 .i64 (20) 10, .sym 1 .i64 (10 + 2) 7, .bool true]) (.bool true), .mk (.tup [.sym 0 .i64 (20) 10, .sym 1 .i64 (10 + 2) 8, .bool false]) (.bool true)]
theorem br_lot20 : chainX br_ft (gl3 0 2 3) 3000 3 br_l20 = true := by kernel_rfl
def br_l36 : List KV := [.mk (.tup [.sym 0 .i64 (20) 14, .sym 1 .i64 (14 + 2) 7, .bool false]) (.bool true), .mk (.tup [.sym 0 .i64 (20) 14, .sym 1 .i64 (14 + 2) 7, .bool true]) (.bool true), .mk (.tup [.sym 0 .i64 (20) 14, .sym 1 .i64 (14 + 2) 8, .bool false]) (.bool true), .mk (.tup [.sym 0 .i64 (20) 14, .sym 1 .i64 (14 + 2) 8, .bool true]) (.bool true), .mk (.tup [.sym 0 .i64 (20) 14, .sym 1 .i64 (14 + 2) 9, .bool false]) (.bool true), .mk (.tup [.sym 0 .i64 (20) 14, .sym 1 .i64 (14 + 2) 9, .bool true]) (.bool true), .mk (.tup [.sym 0 .i64 (20) 14, .sym 1 .i64 (14 + 2) 10, .bool false]) (.bool true)]
theorem br_lot36 : chainX br_ft (gl3 0 2 3) 3000 3 br_l36 = true := by kernel_rfl
def br_l52 : List KV := [.mk (.tup [.sym 0 .i64 (20) 17, .sym 1 .i64 (17 + 2) 12, .bool false]) (.bool true), .mk (.tup [.sym 0 .i64 (20) 17, .sym 1 .i64 (17 + 2) 12, .bool true]) (.bool true), .mk (.tup [.sym 0 .i64 (20) 17, .sym 1 .i64 (17 + 2) 13, .bool false]) (.bool true), .mk (.tup [.sym 0 .i64 (20) 17, .sym 1 .i64 (17 + 2) 13, .bool true]) (.bool true), .mk (.tup [.sym 0 .i64 (20) 17, .sym 1 .i64 (17 + 2) 14, .bool false]) (.bool true), .mk (.tup [.sym 0 .i64 (20) 17, .sym 1 .i64 (17 + 2) 14, .bool true]) (.bool true), .mk (.tup [.sym 0 .i64 (20) 17, .sym 1 .i64 (17 + 2) 15, .bool false]) (.bool true)]
theorem br_lot52 : chainX br_ft (gl3 0 2 3) 3000 3 br_l52 = true := by kernel_rfl
end Go.Exe.Tryz
