/- TwinKinds: runs, part 14 of 26. -/
import Derived.Test.YtoddgmlofhkndaaGreatDoorTkAwake
set_option linter.unusedVariables false
set_option linter.unusedSimpArgs false
set_option maxRecDepth 100000
set_option maxHeartbeats 4000000
namespace Go.Exe.Tryz
open Go Go.Exe
def tk_l13 : List KV := [.mk (.tup [.sym 0 .i64 (16) 0, .sym 1 .i64 (16) 13]) (.bool true)]
theorem tk_lot13 : chainX tk_ft (gl3 1 2 3) 3000 3 tk_l13 = true := by kernel_rfl
def tk_l39 : List KV := [.mk (.tup [.sym 0 .i64 (16) 2, .sym 1 .i64 (16) 7]) (.bool true)]
theorem tk_lot39 : chainX tk_ft (gl3 1 2 3) 3000 3 tk_l39 = true := by kernel_rfl
def tk_l65 : List KV := [.mk (.tup [.sym 0 .i64 (16) 4, .sym 1 .i64 (16) 1]) (.bool true)]
theorem tk_lot65 : chainX tk_ft (gl3 1 2 3) 3000 3 tk_l65 = true := by kernel_rfl
def tk_l91 : List KV := [.mk (.tup [.sym 0 .i64 (16) 5, .sym 1 .i64 (16) 11]) (.bool true)]
theorem tk_lot91 : chainX tk_ft (gl3 1 2 3) 3000 3 tk_l91 = true := by kernel_rfl
def tk_l117 : List KV := [.mk (.tup [.sym 0 .i64 (16) 7, .sym 1 .i64 (16) 5]) (.bool true)]
theorem tk_lot117 : chainX tk_ft (gl3 1 2 3) 3000 3 tk_l117 = true := by kernel_rfl
def tk_l143 : List KV := [.mk (.tup [.sym 0 .i64 (16) 8, .sym 1 .i64 (16) 15]) (.bool true)]
theorem tk_lot143 : chainX tk_ft (gl3 1 2 3) 3000 3 tk_l143 = true := by kernel_rfl
def tk_l169 : List KV := [.mk (.tup [.sym 0 .i64 (16) 10, .sym 1 .i64 (16) 9]) (.bool true)]
theorem tk_lot169 : chainX tk_ft (gl3 1 2 3) 3000 3 tk_l169 = true := by kernel_rfl
def tk_l195 : List KV := [.mk (.tup [.sym 0 .i64 (16) 12, .sym 1 .i64 (16) 3]) (.bool true)]
theorem tk_lot195 : chainX tk_ft (gl3 1 2 3) 3000 3 tk_l195 = true := by kernel_rfl
def tk_l221 : List KV := [.mk (.tup [.sym 0 .i64 (16) 13, .sym 1 .i64 (16) 13]) (.bool true)]
theorem tk_lot221 : chainX tk_ft (gl3 1 2 3) 3000 3 tk_l221 = true := by kernel_rfl
def tk_l247 : List KV := [.mk (.tup [.sym 0 .i64 (16) 15, .sym 1 .i64 (16) 7]) (.bool true)]
theorem tk_lot247 : chainX tk_ft (gl3 1 2 3) 3000 3 tk_l247 = true := by kernel_rfl
end Go.Exe.Tryz
