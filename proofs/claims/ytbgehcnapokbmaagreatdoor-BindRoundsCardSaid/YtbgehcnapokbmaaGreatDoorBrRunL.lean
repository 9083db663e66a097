/- BindRounds: runs, part 12 of 16. -/
import Derived.Test.YtbgehcnapokbmaaGreatDoorBrAwake
set_option maxRecDepth 100000
set_option maxHeartbeats 4000000
namespace Go.Exe.Tryz
open Go Go.Exe
def br_l11 : List KV := [.mk (.tup [.sym 0 .i64 (20) 7, .sym 1 .i64 (7 + 2) 3, .bool true]) (.bool true), .mk (.tup [.sym 0 .i64 (20) 7, .sym 1 .i64 (7 + 2) 4, .bool false]) (.bool true), .mk (.tup [.sym 0 .i64 (20) 7, .sym 1 .i64 (7 + 2) 4, .bool true]) (.bool true), .mk (.tup [.sym 0 .i64 (20) 7, .sym 1 .i64 (7 + 2) 5, .bool false]) (.bool true), .mk (.tup [.sym 0 .i64 (20) 7, .sym 1 .i64 (7 + 2) 5, .bool true]) (.bool true), .mk (.tup [.sym 0 .i64 (20) 7, .sym 1 .i64 (7 + 2) 6, .bool false]) (.bool true), .mk (.tup [.sym 0 .i64 (20) 7, .sym 1 .i64 (7 + 2) 6, .bool true]) (.bool true)]
theorem br_lot11 : chainX br_ft (gl3 0 2 3) 3000 3 br_l11 = true := by kernel_rfl
def br_l27 : List KV := [.mk (.tup [.sym 0 .i64 (20) 12, .sym 1 .i64 (12 + 2) 4, .bool true]) (.bool true), .mk (.tup [.sym 0 .i64 (20) 12, .sym 1 .i64 (12 + 2) 5, .bool false]) (.bool true), .mk (.tup [.sym 0 .i64 (20) 12, .sym 1 .i64 (12 + 2) 5, .bool true]) (.bool true), .mk (.tup [.sym 0 .i64 (20) 12, .sym 1 .i64 (12 + 2) 6, .bool false]) (.bool true), .mk (.tup [.sym 0 .i64 (20) 12, .sym 1 .i64 (12 + 2) 6, .bool true]) (.bool true), .mk (.tup [.sym 0 .i64 (20) 12, .sym 1 .i64 (12 + 2) 7, .bool false]) (.bool true), .mk (.tup [.sym 0 .i64 (20) 12, .sym 1 .i64 (12 + 2) 7, .bool true]) (.bool true)]
theorem br_lot27 : chainX br_ft (gl3 0 2 3) 3000 3 br_l27 = true := by kernel_rfl
def br_l43 : List KV := [.mk (.tup [.sym 0 .i64 (20) 15, .sym 1 .i64 (15 + 2) 15, .bool true]) (.bool true), .mk (.tup [.sym 0 .i64 (20) 15, .sym 1 .i64 (15 + 2) 16, .bool false]) (.bool true), .mk (.tup [.sym 0 .i64 (20) 15, .sym 1 .i64 (15 + 2) 16, .bool true]) (.bool true), .mk (.tup [.sym 0 .i64 (20) 16, .sym 1 .i64 (16 + 2) 0, .bool false]) (.bool true), .mk (.tup [.sym 0 .i64 (20) 16, .sym 1 .i64 (16 + 2) 0, .bool true]) (.bool true), .mk (.tup [.sym 0 .i64 (20) 16, .sym 1 .i64 (16 + 2) 1, .bool false]) (.bool true), .mk (.tup [.sym 0 .i64 (20) 16, .sym 1 .i64 (16 + 2) 1, .bool true]) (.bool true)]
theorem br_lot43 : chainX br_ft (gl3 0 2 3) 3000 3 br_l43 = true := by kernel_rfl
def br_l59 : List KV := [.mk (.tup [.sym 0 .i64 (20) 18, .sym 1 .i64 (18 + 2) 17, .bool true]) (.bool true), .mk (.tup [.sym 0 .i64 (20) 18, .sym 1 .i64 (18 + 2) 18, .bool false]) (.bool true), .mk (.tup [.sym 0 .i64 (20) 18, .sym 1 .i64 (18 + 2) 18, .bool true]) (.bool true), .mk (.tup [.sym 0 .i64 (20) 18, .sym 1 .i64 (18 + 2) 19, .bool false]) (.bool true), .mk (.tup [.sym 0 .i64 (20) 18, .sym 1 .i64 (18 + 2) 19, .bool true]) (.bool true), .mk (.tup [.sym 0 .i64 (20) 19, .sym 1 .i64 (19 + 2) 0, .bool false]) (.bool true), .mk (.tup [.sym 0 .i64 (20) 19, .sym 1 .i64 (19 + 2) 0, .bool true]) (.bool true)]
theorem br_lot59 : chainX br_ft (gl3 0 2 3) 3000 3 br_l59 = true := by kernel_rfl
end Go.Exe.Tryz
