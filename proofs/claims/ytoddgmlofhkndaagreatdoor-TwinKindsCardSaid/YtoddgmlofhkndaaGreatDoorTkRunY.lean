/- TwinKinds: runs, part 25 of 26. -/
import Derived.Test.YtoddgmlofhkndaaGreatDoorTkAwake
set_option linter.unusedVariables false
set_option linter.unusedSimpArgs false
set_option maxRecDepth 100000
set_option maxHeartbeats 4000000
namespace Go.Exe.Tryz
open Go Go.Exe
def tk_l24 : List KV := [.mk (.tup [.sym 0 .i64 (16) 1, .sym 1 .i64 (16) 8]) (.bool true)]
theorem tk_lot24 : chainX tk_ft (gl3 1 2 3) 3000 3 tk_l24 = true := by kernel_rfl
def tk_l50 : List KV := [.mk (.tup [.sym 0 .i64 (16) 3, .sym 1 .i64 (16) 2]) (.bool true)]
theorem tk_lot50 : chainX tk_ft (gl3 1 2 3) 3000 3 tk_l50 = true := by kernel_rfl
def tk_l76 : List KV := [.mk (.tup [.sym 0 .i64 (16) 4, .sym 1 .i64 (16) 12]) (.bool true)]
theorem tk_lot76 : chainX tk_ft (gl3 1 2 3) 3000 3 tk_l76 = true := by kernel_rfl
def tk_l102 : List KV := [.mk (.tup [.sym 0 .i64 (16) 6, .sym 1 .i64 (16) 6]) (.bool true)]
theorem tk_lot102 : chainX tk_ft (gl3 1 2 3) 3000 3 tk_l102 = true := by kernel_rfl
def tk_l128 : List KV := [.mk (.tup [.sym 0 .i64 (16) 8, .sym 1 .i64 (16) 0]) (.bool true)]
theorem tk_lot128 : chainX tk_ft (gl3 1 2 3) 3000 3 tk_l128 = true := by kernel_rfl
def tk_l154 : List KV := [.mk (.tup [.sym 0 .i64 (16) 9, .sym 1 .i64 (16) 10]) (.bool true)]
theorem tk_lot154 : chainX tk_ft (gl3 1 2 3) 3000 3 tk_l154 = true := by kernel_rfl
def tk_l180 : List KV := [.mk (.tup [.sym 0 .i64 (16) 11, .sym 1 .i64 (16) 4]) (.bool true)]
theorem tk_lot180 : chainX tk_ft (gl3 1 2 3) 3000 3 tk_l180 = true := by kernel_rfl
def tk_l206 : List KV := [.mk (.tup [.sym 0 .i64 (16) 12, .sym 1 .i64 (16) 14]) (.bool true)]
theorem tk_lot206 : chainX tk_ft (gl3 1 2 3) 3000 3 tk_l206 = true := by kernel_rfl
def tk_l232 : List KV := [.mk (.tup [.sym 0 .i64 (16) 14, .sym 1 .i64 (16) 8]) (.bool true)]
theorem tk_lot232 : chainX tk_ft (gl3 1 2 3) 3000 3 tk_l232 = true := by kernel_rfl
end Go.Exe.Tryz
