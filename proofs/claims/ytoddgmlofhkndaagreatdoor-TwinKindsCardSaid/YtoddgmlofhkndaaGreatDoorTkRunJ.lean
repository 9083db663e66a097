/- TwinKinds: runs, part 10 of 26. -/
import Derived.Test.YtoddgmlofhkndaaGreatDoorTkAwake
set_option linter.unusedVariables false
set_option linter.unusedSimpArgs false
set_option maxRecDepth 100000
set_option maxHeartbeats 4000000
namespace Go.Exe.Tryz
open Go Go.Exe
def tk_l9 : List KV := [.mk (.tup [.sym 0 .i64 (16) 0, .sym 1 .i64 (16) 9]) (.bool true)]
theorem tk_lot9 : chainX tk_ft (gl3 1 2 3) 3000 3 tk_l9 = true := by kernel_rfl
def tk_l35 : List KV := [.mk (.tup [.sym 0 .i64 (16) 2, .sym 1 .i64 (16) 3]) (.bool true)]
theorem tk_lot35 : chainX tk_ft (gl3 1 2 3) 3000 3 tk_l35 = true := by kernel_rfl
def tk_l61 : List KV := [.mk (.tup [.sym 0 .i64 (16) 3, .sym 1 .i64 (16) 13]) (.bool true)]
theorem tk_lot61 : chainX tk_ft (gl3 1 2 3) 3000 3 tk_l61 = true := by kernel_rfl
def tk_l87 : List KV := [.mk (.tup [.sym 0 .i64 (16) 5, .sym 1 .i64 (16) 7]) (.bool true)]
theorem tk_lot87 : chainX tk_ft (gl3 1 2 3) 3000 3 tk_l87 = true := by kernel_rfl
def tk_l113 : List KV := [.mk (.tup [.sym 0 .i64 (16) 7, .sym 1 .i64 (16) 1]) (.bool true)]
theorem tk_lot113 : chainX tk_ft (gl3 1 2 3) 3000 3 tk_l113 = true := by kernel_rfl
def tk_l139 : List KV := [.mk (.tup [.sym 0 .i64 (16) 8, .sym 1 .i64 (16) 11]) (.bool true)]
theorem tk_lot139 : chainX tk_ft (gl3 1 2 3) 3000 3 tk_l139 = true := by kernel_rfl
def tk_l165 : List KV := [.mk (.tup [.sym 0 .i64 (16) 10, .sym 1 .i64 (16) 5]) (.bool true)]
theorem tk_lot165 : chainX tk_ft (gl3 1 2 3) 3000 3 tk_l165 = true := by kernel_rfl
def tk_l191 : List KV := [.mk (.tup [.sym 0 .i64 (16) 11, .sym 1 .i64 (16) 15]) (.bool true)]
theorem tk_lot191 : chainX tk_ft (gl3 1 2 3) 3000 3 tk_l191 = true := by kernel_rfl
def tk_l217 : List KV := [.mk (.tup [.sym 0 .i64 (16) 13, .sym 1 .i64 (16) 9]) (.bool true)]
theorem tk_lot217 : chainX tk_ft (gl3 1 2 3) 3000 3 tk_l217 = true := by kernel_rfl
def tk_l243 : List KV := [.mk (.tup [.sym 0 .i64 (16) 15, .sym 1 .i64 (16) 3]) (.bool true)]
theorem tk_lot243 : chainX tk_ft (gl3 1 2 3) 3000 3 tk_l243 = true := by kernel_rfl
end Go.Exe.Tryz
