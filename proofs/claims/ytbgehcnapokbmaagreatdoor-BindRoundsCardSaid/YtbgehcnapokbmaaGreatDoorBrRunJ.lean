/- BindRounds: runs, part 10 of 16. -/
import Derived.Test.YtbgehcnapokbmaaGreatDoorBrAwake
set_option maxRecDepth 100000
set_option maxHeartbeats 4000000
namespace Go.Exe.Tryz
open Go Go.Exe
def br_l9 : List KV := [.mk (.tup [.sym 0 .i64 (20) 6, .sym 1 .i64 (6 + 2) 4, .bool true]) (.bool true), .mk (.tup [.sym 0 .i64 (20) 6, .sym 1 .i64 (6 + 2) 5, .bool false]) (.bool true), .mk (.tup [.sym 0 .i64 (20) 6, .sym 1 .i64 (6 + 2) 5, .bool true]) (.bool true), .mk (.tup [.sym 0 .i64 (20) 6, .sym 1 .i64 (6 + 2) 6, .bool false]) (.bool true), .mk (.tup [.sym 0 .i64 (20) 6, .sym 1 .i64 (6 + 2) 6, .bool true]) (.bool true), .mk (.tup [.sym 0 .i64 (20) 6, .sym 1 .i64 (6 + 2) 7, .bool false]) (.bool true), .mk (.tup [.sym 0 .i64 (20) 6, .sym 1 .i64 (6 + 2) 7, .bool true]) (.bool true)]
theorem br_lot9 : chainX br_ft (gl3 0 2 3) 3000 3 br_l9 = true := by kernel_rfl
def br_l25 : List KV := [.mk (.tup [.sym 0 .i64 (20) 11, .sym 1 .i64 (11 + 2) 10, .bool true]) (.bool true), .mk (.tup [.sym 0 .i64 (20) 11, .sym 1 .i64 (11 + 2) 11, .bool false]) (.bool true), .mk (.tup [.sym 0 .i64 (20) 11, .sym 1 .i64 (11 + 2) 11, .bool true]) (.bool true), .mk (.tup [.sym 0 .i64 (20) 11, .sym 1 .i64 (11 + 2) 12, .bool false]) (.bool true), .mk (.tup [.sym 0 .i64 (20) 11, .sym 1 .i64 (11 + 2) 12, .bool true]) (.bool true), .mk (.tup [.sym 0 .i64 (20) 12, .sym 1 .i64 (12 + 2) 0, .bool false]) (.bool true), .mk (.tup [.sym 0 .i64 (20) 12, .sym 1 .i64 (12 + 2) 0, .bool true]) (.bool true)]
theorem br_lot25 : chainX br_ft (gl3 0 2 3) 3000 3 br_l25 = true := by kernel_rfl
def br_l41 : List KV := [.mk (.tup [.sym 0 .i64 (20) 15, .sym 1 .i64 (15 + 2) 8, .bool true]) (.bool true), .mk (.tup [.sym 0 .i64 (20) 15, .sym 1 .i64 (15 + 2) 9, .bool false]) (.bool true), .mk (.tup [.sym 0 .i64 (20) 15, .sym 1 .i64 (15 + 2) 9, .bool true]) (.bool true), .mk (.tup [.sym 0 .i64 (20) 15, .sym 1 .i64 (15 + 2) 10, .bool false]) (.bool true), .mk (.tup [.sym 0 .i64 (20) 15, .sym 1 .i64 (15 + 2) 10, .bool true]) (.bool true), .mk (.tup [.sym 0 .i64 (20) 15, .sym 1 .i64 (15 + 2) 11, .bool false]) (.bool true), .mk (.tup [.sym 0 .i64 (20) 15, .sym 1 .i64 (15 + 2) 11, .bool true]) (.bool true)]
theorem br_lot41 : chainX br_ft (gl3 0 2 3) 3000 3 br_l41 = true := by kernel_rfl
def br_l57 : List KV := [.mk (.tup [.sym 0 .i64 (20) 18, .sym 1 .i64 (18 + 2) 10, .bool true]) (.bool true), .mk (.tup [.sym 0 .i64 (20) 18, .sym 1 .i64 (18 + 2) 11, .bool false]) (.bool true), .mk (.tup [.sym 0 .i64 (20) 18, .sym 1 .i64 (18 + 2) 11, .bool true]) (.bool true), .mk (.tup [.sym 0 .i64 (20) 18, .sym 1 .i64 (18 + 2) 12, .bool false]) (.bool true), .mk (.tup [.sym 0 .i64 (20) 18, .sym 1 .i64 (18 + 2) 12, .bool true]) (.bool true), .mk (.tup [.sym 0 .i64 (20) 18, .sym 1 .i64 (18 + 2) 13, .bool false]) (.bool true), .mk (.tup [.sym 0 .i64 (20) 18, .sym 1 .i64 (18 + 2) 13, .bool true]) (.bool true)]
theorem br_lot57 : chainX br_ft (gl3 0 2 3) 3000 3 br_l57 = true := by kernel_rfl
end Go.Exe.Tryz
