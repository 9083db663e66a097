/- BindRounds: runs, part 14 of 16. -/
import Derived.Test.YtbgehcnapokbmaaGreatDoorBrAwake
set_option maxRecDepth 100000
set_option maxHeartbeats 4000000
namespace Go.Exe.Tryz
open Go Go.Exe
def br_l13 : List KV := [.mk (.tup [.sym 0 .i64 (20) 8, .sym 1 .i64 (8 + 2) 1, .bool true]) (.bool true), .mk (.tup [.sym 0 .i64 (20) 8, .sym 1 .i64 (8 + 2) 2, .bool false]) (.bool true), .mk (.tup [.sym 0 .i64 (20) 8, .sym 1 .i64 (8 + 2) 2, .bool true]) (.bool true), .mk (.tup [.sym 0 .i64 (20) 8, .sym 1 .i64 (8 + 2) 3, .bool false]) (.bool true), .mk (.tup [.sym 0 .i64 (20) 8, .sym 1 .i64 (8 + 2) 3, .bool true]) (.bool true), .mk (.tup [.sym 0 .i64 (20) 8, .sym 1 .i64 (8 + 2) 4, .bool false]) (.bool true), .mk (.tup [.sym 0 .i64 (20) 8, .sym 1 .i64 (8 + 2) 4, .bool true]) (.bool true)]
theorem br_lot13 : chainX br_ft (gl3 0 2 3) 3000 3 br_l13 = true := by kernel_rfl
def br_l29 : List KV := [.mk (.tup [.sym 0 .i64 (20) 12, .sym 1 .i64 (12 + 2) 11, .bool true]) (.bool true), .mk (.tup [.sym 0 .i64 (20) 12, .sym 1 .i64 (12 + 2) 12, .bool false]) (.bool true), .mk (.tup [.sym 0 .i64 (20) 12, .sym 1 .i64 (12 + 2) 12, .bool true]) (.bool true), .mk (.tup [.sym 0 .i64 (20) 12, .sym 1 .i64 (12 + 2) 13, .bool false]) (.bool true), .mk (.tup [.sym 0 .i64 (20) 12, .sym 1 .i64 (12 + 2) 13, .bool true]) (.bool true), .mk (.tup [.sym 0 .i64 (20) 13, .sym 1 .i64 (13 + 2) 0, .bool false]) (.bool true), .mk (.tup [.sym 0 .i64 (20) 13, .sym 1 .i64 (13 + 2) 0, .bool true]) (.bool true)]
theorem br_lot29 : chainX br_ft (gl3 0 2 3) 3000 3 br_l29 = true := by kernel_rfl
def br_l45 : List KV := [.mk (.tup [.sym 0 .i64 (20) 16, .sym 1 .i64 (16 + 2) 5, .bool true]) (.bool true), .mk (.tup [.sym 0 .i64 (20) 16, .sym 1 .i64 (16 + 2) 6, .bool false]) (.bool true), .mk (.tup [.sym 0 .i64 (20) 16, .sym 1 .i64 (16 + 2) 6, .bool true]) (.bool true), .mk (.tup [.sym 0 .i64 (20) 16, .sym 1 .i64 (16 + 2) 7, .bool false]) (.bool true), .mk (.tup [.sym 0 .i64 (20) 16, .sym 1 .i64 (16 + 2) 7, .bool true]) (.bool true), .mk (.tup [.sym 0 .i64 (20) 16, .sym 1 .i64 (16 + 2) 8, .bool false]) (.bool true), .mk (.tup [.sym 0 .i64 (20) 16, .sym 1 .i64 (16 + 2) 8, .bool true]) (.bool true)]
theorem br_lot45 : chainX br_ft (gl3 0 2 3) 3000 3 br_l45 = true := by kernel_rfl
def br_l61 : List KV := [.mk (.tup [.sym 0 .i64 (20) 19, .sym 1 .i64 (19 + 2) 4, .bool true]) (.bool true), .mk (.tup [.sym 0 .i64 (20) 19, .sym 1 .i64 (19 + 2) 5, .bool false]) (.bool true), .mk (.tup [.sym 0 .i64 (20) 19, .sym 1 .i64 (19 + 2) 5, .bool true]) (.bool true), .mk (.tup [.sym 0 .i64 (20) 19, .sym 1 .i64 (19 + 2) 6, .bool false]) (.bool true), .mk (.tup [.sym 0 .i64 (20) 19, .sym 1 .i64 (19 + 2) 6, .bool true]) (.bool true), .mk (.tup [.sym 0 .i64 (20) 19, .sym 1 .i64 (19 + 2) 7, .bool false]) (.bool true), .mk (.tup [.sym 0 .i64 (20) 19, .sym 1 .i64 (19 + 2) 7, .bool true]) (.bool true)]
theorem br_lot61 : chainX br_ft (gl3 0 2 3) 3000 3 br_l61 = true := by kernel_rfl
end Go.Exe.Tryz
