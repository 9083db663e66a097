/- TwinKinds: runs, part 20 of 26. -/
import Derived.Test.YtoddgmlofhkndaaGreatDoorTkAwake
set_option linter.unusedVariables false
set_option linter.unusedSimpArgs false
set_option maxRecDepth 100000
set_option maxHeartbeats 4000000
namespace Go.Exe.Tryz
open Go Go.Exe
def tk_l19 : List KV := [.mk (.tup [.sym 0 .i64 (16) 1, .sym 1 .i64 (16) 3]) (.bool true)]
theorem tk_lot19 : chainX tk_ft (gl3 1 2 3) 3000 3 tk_l19 = true := by kernel_rfl
def tk_l45 : List KV := [.mk (.tup [.sym 0 .i64 (16) 2, .sym 1 .i64 (16) 13]) (.bool true)]
theorem tk_lot45 : chainX tk_ft (gl3 1 2 3) 3000 3 tk_l45 = true := by kernel_rfl
def tk_l71 : List KV := [.mk (.tup [.sym 0 .i64 (16) 4, .sym 1 .i64 (16) 7]) (.bool true)]
theorem tk_lot71 : chainX tk_ft (gl3 1 2 3) 3000 3 tk_l71 = true := by kernel_rfl
def tk_l97 : List KV := [.mk (.tup [.sym 0 .i64 (16) 6, .sym 1 .i64 (16) 1]) (.bool true)]
theorem tk_lot97 : chainX tk_ft (gl3 1 2 3) 3000 3 tk_l97 = true := by kernel_rfl
def tk_l123 : List KV := [.mk (.tup [.sym 0 .i64 (16) 7, .sym 1 .i64 (16) 11]) (.bool true)]
theorem tk_lot123 : chainX tk_ft (gl3 1 2 3) 3000 3 tk_l123 = true := by kernel_rfl
def tk_l149 : List KV := [.mk (.tup [.sym 0 .i64 (16) 9, .sym 1 .i64 (16) 5]) (.bool true)]
theorem tk_lot149 : chainX tk_ft (gl3 1 2 3) 3000 3 tk_l149 = true := by kernel_rfl
def tk_l175 : List KV := [.mk (.tup [.sym 0 .i64 (16) 10, .sym 1 .i64 (16) 15]) (.bool true)]
theorem tk_lot175 : chainX tk_ft (gl3 1 2 3) 3000 3 tk_l175 = true := by kernel_rfl
def tk_l201 : List KV := [.mk (.tup [.sym 0 .i64 (16) 12, .sym 1 .i64 (16) 9]) (.bool true)]
theorem tk_lot201 : chainX tk_ft (gl3 1 2 3) 3000 3 tk_l201 = true := by kernel_rfl
def tk_l227 : List KV := [.mk (.tup [.sym 0 .i64 (16) 14, .sym 1 .i64 (16) 3]) (.bool true)]
theorem tk_lot227 : chainX tk_ft (gl3 1 2 3) 3000 3 tk_l227 = true := by kernel_rfl
def tk_l253 : List KV := [.mk (.tup [.sym 0 .i64 (16) 15, .sym 1 .i64 (16) 13]) (.bool true)]
theorem tk_lot253 : chainX tk_ft (gl3 1 2 3) 3000 3 tk_l253 = true := by kernel_rfl
end Go.Exe.Tryz
