/- BindRounds: runs, part 7 of 16. -/
import Derived.Test.YtbgehcnapokbmaaGreatDoorBrAwake
set_option maxRecDepth 100000
set_option maxHeartbeats 4000000
namespace Go.Exe.Tryz
open Go Go.Exe
def br_l6 : List KV := [.mk (.tup [.sym 0 .i64 (20) 5, .sym 1 .i64 (5 + 2) 1, .bool false]) (.bool true), .mk (.tup [.sym 0 .i64 (20) 5, .sym 1 .i64 (5 + 2) 1, .bool true]) (.bool true), .mk (.tup [.sym 0 .i64 (20) 5, .sym 1 .i64 (5 + 2) 2, .bool false]) (.bool true), .mk (.tup [.sym 0 .i64 (20) 5, .sym 1 .i64 (5 + 2) 2, .bool true]) (.bool true), .mk (.tup [.sym 0 .i64 (20) 5, .sym 1 .i64 (5 + 2) 3, .bool false]) (.bool true), .mk (.tup [.sym 0 .i64 (20) 5, .sym 1 .i64 (5 + 2) 3, .bool true]) (.bool true), .mk (.tup [.sym 0 .i64 (20) 5, .sym 1 .i64 (5 + 2) 4, .bool false]) (.bool true)]
theorem br_lot6 : chainX br_ft (gl3 0 2 3) 3000 3 br_l6 = true := by kernel_rfl
def br_l22 : List KV := [.mk (.tup [.sym 0 .i64 (20) 11, .sym 1 .i64 (11 + 2) 0, .bool false]) (.bool true), .mk (.tup [.sym 0 .i64 (20) 11, .sym 1 .i64 (11 + 2) 0, .bool true]) (.bool true), .mk (.tup [.sym 0 .i64 (20) 11, .sym 1 .i64 (11 + 2) 1, .bool false]) (.bool true), .mk (.tup [.sym 0 .i64 (20) 11, .sym 1 .i64 (11 + 2) 1, .bool true]) (.bool true), .mk (.tup [.sym 0 .i64 (20) 11, .sym 1 .i64 (11 + 2) 2, .bool false]) (.bool true), .mk (.tup [.sym 0 .i64 (20) 11, .sym 1 .i64 (11 + 2) 2, .bool true]) (.bool true), .mk (.tup [.sym 0 .i64 (20) 11, .sym 1 .i64 (11 + 2) 3, .bool false]) (.bool true)]
theorem br_lot22 : chainX br_ft (gl3 0 2 3) 3000 3 br_l22 = true := by kernel_rfl
def br_l38 : List KV := [.mk (.tup [.sym 0 .i64 (20) 14, .sym 1 .i64 (14 + 2) 14, .bool false]) (.bool true), .mk (.tup [.sym 0 .i64 (20) 14, .sym 1 .i64 (14 + 2) 14, .bool true]) (.bool true), .mk (.tup [.sym 0 .i64 (20) 14, .sym 1 .i64 (14 + 2) 15, .bool false]) (.bool true), .mk (.tup [.sym 0 .i64 (20) 14, .sym 1 .i64 (14 + 2) 15, .bool true]) (.bool true), .mk (.tup [.sym 0 .i64 (20) 15, .sym 1 .i64 (15 + 2) 0, .bool false]) (.bool true), .mk (.tup [.sym 0 .i64 (20) 15, .sym 1 .i64 (15 + 2) 0, .bool true]) (.bool true), .mk (.tup [.sym 0 .i64 (20) 15, .sym 1 .i64 (15 + 2) 1, .bool false]) (.bool true)]
theorem br_lot38 : chainX br_ft (gl3 0 2 3) 3000 3 br_l38 = true := by kernel_rfl
def br_l54 : List KV := [.mk (.tup [.sym 0 .i64 (20) 18, .sym 1 .i64 (18 + 2) 0, .bool false]) (.bool true), .mk (.tup [.sym 0 .i64 (20) 18, .sym 1 .i64 (18 + 2) 0, .bool true]) (.bool true), .mk (.tup [.sym 0 .i64 (20) 18, .sym 1 .i64 (18 + 2) 1, .bool false]) (.bool true), .mk (.tup [.sym 0 .i64 (20) 18, .sym 1 .i64 (18 + 2) 1, .bool true]) (.bool true), .mk (.tup [.sym 0 .i64 (20) 18, .sym 1 .i64 (18 + 2) 2, .bool false]) (.bool true), .mk (.tup [.sym 0 .i64 (20) 18, .sym 1 .i64 (18 + 2) 2, .bool true]) (.bool true), .mk (.tup [.sym 0 .i64 (20) 18, .sym 1 .i64 (18 + 2) 3, .bool false]) (.bool true)]
theorem br_lot54 : chainX br_ft (gl3 0 2 3) 3000 3 br_l54 = true := by kernel_rfl
end Go.Exe.Tryz
