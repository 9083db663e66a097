/- TwinKinds: runs, part 9 of 26. -/
import Derived.Test.YtoddgmlofhkndaaGreatDoorTkAwake
set_option linter.unusedVariables false
set_option linter.unusedSimpArgs false
set_option maxRecDepth 100000
set_option maxHeartbeats 4000000
namespace Go.Exe.Tryz
open Go Go.Exe
def tk_l8 : List KV := [.mk (.tup [.sym 0 .i64 (16) 0, .sym 1 .i64 (16) 8]) (.bool true)]
theorem tk_lot8 : chainX tk_ft (gl3 1 2 3) 3000 3 tk_l8 = true := by kernel_rfl
def tk_l34 : List KV := [.mk (.tup [.sym 0 .i64 (16) 2, .sym 1 .i64 (16) 2]) (.bool true)]
theorem tk_lot34 : chainX tk_ft (gl3 1 2 3) 3000 3 tk_l34 = true := by kernel_rfl
def tk_l60 : List KV := [.mk (.tup [.sym 0 .i64 (16) 3, .sym 1 .i64 (16) 12]) (.bool true)]
theorem tk_lot60 : chainX tk_ft (gl3 1 2 3) 3000 3 tk_l60 = true := by kernel_rfl
def tk_l86 : List KV := [.mk (.tup [.sym 0 .i64 (16) 5, .sym 1 .i64 (16) 6]) (.bool true)]
theorem tk_lot86 : chainX tk_ft (gl3 1 2 3) 3000 3 tk_l86 = true := by kernel_rfl
def tk_l112 : List KV := [.mk (.tup [.sym 0 .i64 (16) 7, .sym 1 .i64 (16) 0]) (.bool true)]
theorem tk_lot112 : chainX tk_ft (gl3 1 2 3) 3000 3 tk_l112 = true := by kernel_rfl
def tk_l138 : List KV := [.mk (.tup [.sym 0 .i64 (16) 8, .sym 1 .i64 (16) 10]) (.bool true)]
theorem tk_lot138 : chainX tk_ft (gl3 1 2 3) 3000 3 tk_l138 = true := by kernel_rfl
def tk_l164 : List KV := [.mk (.tup [.sym 0 .i64 (16) 10, .sym 1 .i64 (16) 4]) (.bool true)]
theorem tk_lot164 : chainX tk_ft (gl3 1 2 3) 3000 3 tk_l164 = true := by kernel_rfl
def tk_l190 : List KV := [.mk (.tup [.sym 0 .i64 (16) 11, .sym 1 .i64 (16) 14]) (.bool true)]
theorem tk_lot190 : chainX tk_ft (gl3 1 2 3) 3000 3 tk_l190 = true := by kernel_rfl
def tk_l216 : List KV := [.mk (.tup [.sym 0 .i64 (16) 13, .sym 1 .i64 (16) 8]) (.bool true)]
theorem tk_lot216 : chainX tk_ft (gl3 1 2 3) 3000 3 tk_l216 = true := by kernel_rfl
def tk_l242 : List KV := [.mk (.tup [.sym 0 .i64 (16) 15, .sym 1 .i64 (16) 2]) (.bool true)]
theorem tk_lot242 : chainX tk_ft (gl3 1 2 3) 3000 3 tk_l242 = true := by kernel_rfl
end Go.Exe.Tryz
