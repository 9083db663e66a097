/- TwinKinds: runs, part 5 of 26. -/
import Derived.Test.YtoddgmlofhkndaaGreatDoorTkAwake
set_option linter.unusedVariables false
set_option linter.unusedSimpArgs false
set_option maxRecDepth 100000
set_option maxHeartbeats 4000000
namespace Go.Exe.Tryz
open Go Go.Exe
def tk_l4 : List KV := [.mk (.tup [.sym 0 .i64 (16) 0, .sym 1 .i64 (16) 4]) (.bool true)]
theorem tk_lot4 : chainX tk_ft (gl3 1 2 3) 3000 3 tk_l4 = true := by kernel_rfl
def tk_l30 : List KV := [.mk (.tup [.sym 0 .i64 (16) 1, .sym 1 .i64 (16) 14]) (.bool true)]
theorem tk_lot30 : chainX tk_ft (gl3 1 2 3) 3000 3 tk_l30 = true := by kernel_rfl
def tk_l56 : List KV := [.mk (.tup [.sym 0 .i64 (16) 3, .sym 1 .i64 (16) 8]) (.bool true)]
theorem tk_lot56 : chainX tk_ft (gl3 1 2 3) 3000 3 tk_l56 = true := by kernel_rfl
def tk_l82 : List KV := [.mk (.tup [.sym 0 .i64 (16) 5, .sym 1 .i64 (16) 2]) (.bool true)]
theorem tk_lot82 : chainX tk_ft (gl3 1 2 3) 3000 3 tk_l82 = true := by kernel_rfl
def tk_l108 : List KV := [.mk (.tup [.sym 0 .i64 (16) 6, .sym 1 .i64 (16) 12]) (.bool true)]
theorem tk_lot108 : chainX tk_ft (gl3 1 2 3) 3000 3 tk_l108 = true := by kernel_rfl
def tk_l134 : List KV := [.mk (.tup [.sym 0 .i64 (16) 8, .sym 1 .i64 (16) 6]) (.bool true)]
theorem tk_lot134 : chainX tk_ft (gl3 1 2 3) 3000 3 tk_l134 = true := by kernel_rfl
def tk_l160 : List KV := [.mk (.tup [.sym 0 .i64 (16) 10, .sym 1 .i64 (16) 0]) (.bool true)]
theorem tk_lot160 : chainX tk_ft (gl3 1 2 3) 3000 3 tk_l160 = true := by kernel_rfl
def tk_l186 : List KV := [.mk (.tup [.sym 0 .i64 (16) 11, .sym 1 .i64 (16) 10]) (.bool true)]
theorem tk_lot186 : chainX tk_ft (gl3 1 2 3) 3000 3 tk_l186 = true := by kernel_rfl
def tk_l212 : List KV := [.mk (.tup [.sym 0 .i64 (16) 13, .sym 1 .i64 (16) 4]) (.bool true)]
theorem tk_lot212 : chainX tk_ft (gl3 1 2 3) 3000 3 tk_l212 = true := by kernel_rfl
def tk_l238 : List KV := [.mk (.tup [.sym 0 .i64 (16) 14, .sym 1 .i64 (16) 14]) (.bool true)]
theorem tk_lot238 : chainX tk_ft (gl3 1 2 3) 3000 3 tk_l238 = true := by kernel_rfl
end Go.Exe.Tryz
