/- BindRounds: runs, part 13 of 16. -/
import Derived.Test.YtbgehcnapokbmaaGreatDoorBrAwake
set_option maxRecDepth 100000
set_option maxHeartbeats 4000000
namespace Go.Exe.Tryz
open Go Go.Exe
def br_l12 : List KV := [.mk (.tup [.sym 0 .i64 (20) 7, .sym 1 .i64 (7 + 2) 7, .bool false]) (.bool true), .mk (.tup [.sym 0 .i64 (20) 7, .sym 1 .i64 (7 + 2) 7, .bool true]) (.bool true), .mk (.tup [.sym 0 .i64 (20) 7, .sym 1 .i64 (7 + 2) 8, .bool false]) (.bool true), .mk (.tup [.sym 0 .i64 (20) 7, .sym 1 .i64 (7 + 2) 8, .bool true]) (.bool true), .mk (.tup [.sym 0 .i64 (20) 8, .sym 1 .i64 (8 + 2) 0, .bool false]) (.bool true), .mk (.tup [.sym 0 .i64 (20) 8, .sym 1 .i64 (8 + 2) 0, .bool true]) (.bool true), .mk (.tup [.sym 0 .i64 (20) 8, .sym 1 .i64 (8 + 2) 1, .bool false]) (.bool true)]
theorem br_lot12 : chainX br_ft (gl3 0 2 3) 3000 3 br_l12 = true := by kernel_rfl
def br_l28 : List KV := [.mk (.tup [.sym 0 .i64 (20) 12, .sym 1 .i64 (12 + 2) 8, .bool false]) (.bool true), .mk (.tup [.sym 0 .i64 (20) 12, .sym 1 .i64 (12 + 2) 8, .bool true]) (.bool true), .mk (.tup [.sym 0 .i64 (20) 12, .sym 1 .i64 (12 + 2) 9, .bool false]) (.bool true), .mk (.tup [.sym 0 .i64 (20) 12, .sym 1 .i64 (12 + 2) 9, .bool true]) (.bool true), .mk (.tup [.sym 0 .i64 (20) 12, .sym 1 .i64 (12 + 2) 10, .bool false]) (.bool true), .mk (.tup [.sym 0 .i64 (20) 12, .sym 1 .i64 (12 + 2) 10, .bool true]) (.bool true), .mk (.tup [.sym 0 .i64 (20) 12, .sym 1 .i64 (12 + 2) 11, .bool false]) (.bool true)]
theorem br_lot28 : chainX br_ft (gl3 0 2 3) 3000 3 br_l28 = true := by kernel_rfl
def br_l44 : List KV := [.mk (.tup [.sym 0 .i64 (20) 16, .sym 1 .i64 (16 + 2) 2, .bool false]) (.bool true), .mk (.tup [.sym 0 .i64 (20) 16, .sym 1 .i64 (16 + 2) 2, .bool true]) (.bool true), .mk (.tup [.sym 0 .i64 (20) 16, .sym 1 .i64 (16 + 2) 3, .bool false]) (.bool true), .mk (.tup [.sym 0 .i64 (20) 16, .sym 1 .i64 (16 + 2) 3, .bool true]) (.bool true), .mk (.tup [.sym 0 .i64 (20) 16, .sym 1 .i64 (16 + 2) 4, .bool false]) (.bool true), .mk (.tup [.sym 0 .i64 (20) 16, .sym 1 .i64 (16 + 2) 4, .bool true]) (.bool true), .mk (.tup [.sym 0 .i64 (20) 16, .sym 1 .i64 (16 + 2) 5, .bool false]) (.bool true)]
theorem br_lot44 : chainX br_ft (gl3 0 2 3) 3000 3 br_l44 = true := by kernel_rfl
def br_l60 : List KV := [.mk (.tup [.sym 0 .i64 (20) 19, .sym 1 .i64 (19 + 2) 1, .bool false]) (.bool true), .mk (.tup [.sym 0 .i64 (20) 19, .sym 1 .i64 (19 + 2) 1, .bool true]) (.bool true), .mk (.tup [.sym 0 .i64 (20) 19, .sym 1 .i64 (19 + 2) 2, .bool false]) (.bool true), .mk (.tup [.sym 0 .i64 (20) 19, .sym 1 .i64 (19 + 2) 2, .bool true]) (.bool true), .mk (.tup [.sym 0 .i64 (20) 19, .sym 1 .i64 (19 + 2) 3, .bool false]) (.bool true), .mk (.tup [.sym 0 .i64 (20) 19, .sym 1 .i64 (19 + 2) 3, .bool true]) (.bool true), .mk (.tup [.sym 0 .i64 (20) 19, .sym 1 .i64 (19 + 2) 4, .bool false]) (.bool true)]
theorem br_lot60 : chainX br_ft (gl3 0 2 3) 3000 3 br_l60 = true := by kernel_rfl
end Go.Exe.Tryz
