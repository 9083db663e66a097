/- TwinKinds: runs, part 18 of 26. -/
import Derived.Test.YtoddgmlofhkndaaGreatDoorTkAwake
set_option linter.unusedVariables false
set_option linter.unusedSimpArgs false
set_option maxRecDepth 100000
set_option maxHeartbeats 4000000
namespace Go.Exe.Tryz
open Go Go.Exe
def tk_l17 : List KV := [.mk (.tup [.sym 0 .i64 (16) 1, .sym 1 .i64 (16) 1]) (.bool true)]
theorem tk_lot17 : chainX tk_ft (gl3 1 2 3) 3000 3 tk_l17 = true := by kernel_rfl
def tk_l43 : List KV := [.mk (.tup [.sym 0 .i64 (16) 2, .sym 1 .i64 (16) 11]) (.bool true)]
theorem tk_lot43 : chainX tk_ft (gl3 1 2 3) 3000 3 tk_l43 = true := by kernel_rfl
def tk_l69 : List KV := [.mk (.tup [.sym 0 .i64 (16) 4, .sym 1 .i64 (16) 5]) (.bool true)]
theorem tk_lot69 : chainX tk_ft (gl3 1 2 3) 3000 3 tk_l69 = true := by kernel_rfl
def tk_l95 : List KV := [.mk (.tup [.sym 0 .i64 (16) 5, .sym 1 .i64 (16) 15]) (.bool true)]
theorem tk_lot95 : chainX tk_ft (gl3 1 2 3) 3000 3 tk_l95 = true := by kernel_rfl
def tk_l121 : List KV := [.mk (.tup [.sym 0 .i64 (16) 7, .sym 1 .i64 (16) 9]) (.bool true)]
theorem tk_lot121 : chainX tk_ft (gl3 1 2 3) 3000 3 tk_l121 = true := by kernel_rfl
def tk_l147 : List KV := [.mk (.tup [.sym 0 .i64 (16) 9, .sym 1 .i64 (16) 3]) (.bool true)]
theorem tk_lot147 : chainX tk_ft (gl3 1 2 3) 3000 3 tk_l147 = true := by kernel_rfl
def tk_l173 : List KV := [.mk (.tup [.sym 0 .i64 (16) 10, .sym 1 .i64 (16) 13]) (.bool true)]
theorem tk_lot173 : chainX tk_ft (gl3 1 2 3) 3000 3 tk_l173 = true := by kernel_rfl
def tk_l199 : List KV := [.mk (.tup [.sym 0 .i64 (16) 12, .sym 1 .i64 (16) 7]) (.bool true)]
theorem tk_lot199 : chainX tk_ft (gl3 1 2 3) 3000 3 tk_l199 = true := by kernel_rfl
def tk_l225 : List KV := [.mk (.tup [.sym 0 .i64 (16) 14, .sym 1 .i64 (16) 1]) (.bool true)]
theorem tk_lot225 : chainX tk_ft (gl3 1 2 3) 3000 3 tk_l225 = true := by kernel_rfl
def tk_l251 : List KV := [.mk (.tup [.sym 0 .i64 (16) 15, .sym 1 .i64 (16) 11]) (.bool true)]
theorem tk_lot251 : chainX tk_ft (gl3 1 2 3) 3000 3 tk_l251 = true := by kernel_rfl
end Go.Exe.Tryz
