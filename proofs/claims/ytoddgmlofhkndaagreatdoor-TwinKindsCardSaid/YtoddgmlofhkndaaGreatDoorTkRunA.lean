/- TwinKinds: runs, part 1 of 26. -/
import Derived.Test.YtoddgmlofhkndaaGreatDoorTkAwake
set_option linter.unusedVariables false
set_option linter.unusedSimpArgs false
set_option maxRecDepth 100000
set_option maxHeartbeats 4000000
namespace Go.Exe.Tryz
open Go Go.Exe
def tk_l0 : List KV := [.mk (.tup [.sym 0 .i64 (16) 0, .sym 1 .i64 (16) 0]) (.bool true)]
theorem tk_lot0 : chainX tk_ft (gl3 1 2 3) 3000 3 tk_l0 = true := by kernel_rfl
def tk_l26 : List KV := [.mk (.tup [.sym 0 .i64 (16) 1, .sym 1 .i64 (16) 10]) (.bool true)]
theorem tk_lot26 : chainX tk_ft (gl3 1 2 3) 3000 3 tk_l26 = true := by kernel_rfl
def tk_l52 : List KV := [.mk (.tup [.sym 0 .i64 (16) 3, .sym 1 .i64 (16) 4]) (.bool true)]
theorem tk_lot52 : chainX tk_ft (gl3 1 2 3) 3000 3 tk_l52 = true := by kernel_rfl
def tk_l78 : List KV := [.mk (.tup [.sym 0 .i64 (16) 4, .sym 1 .i64 (16) 14]) (.bool true)]
theorem tk_lot78 : chainX tk_ft (gl3 1 2 3) 3000 3 tk_l78 = true := by kernel_rfl
def tk_l104 : List KV := [.mk (.tup [.sym 0 .i64 (16) 6, .sym 1 .i64 (16) 8]) (.bool true)]
theorem tk_lot104 : chainX tk_ft (gl3 1 2 3) 3000 3 tk_l104 = true := by kernel_rfl
def tk_l130 : List KV := [.mk (.tup [.sym 0 .i64 (16) 8, .sym 1 .i64 (16) 2]) (.bool true)]
theorem tk_lot130 : chainX tk_ft (gl3 1 2 3) 3000 3 tk_l130 = true := by kernel_rfl
def tk_l156 : List KV := [.mk (.tup [.sym 0 .i64 (16) 9, .sym 1 .i64 (16) 12]) (.bool true)]
theorem tk_lot156 : chainX tk_ft (gl3 1 2 3) 3000 3 tk_l156 = true := by kernel_rfl
def tk_l182 : List KV := [.mk (.tup [.sym 0 .i64 (16) 11, .sym 1 .i64 (16) 6]) (.bool true)]
theorem tk_lot182 : chainX tk_ft (gl3 1 2 3) 3000 3 tk_l182 = true := by kernel_rfl
def tk_l208 : List KV := [.mk (.tup [.sym 0 .i64 (16) 13, .sym 1 .i64 (16) 0]) (.bool true)]
theorem tk_lot208 : chainX tk_ft (gl3 1 2 3) 3000 3 tk_l208 = true := by kernel_rfl
def tk_l234 : List KV := [.mk (.tup [.sym 0 .i64 (16) 14, .sym 1 .i64 (16) 10]) (.bool true)]
theorem tk_lot234 : chainX tk_ft (gl3 1 2 3) 3000 3 tk_l234 = true := by kernel_rfl
end Go.Exe.Tryz
