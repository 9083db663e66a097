/- TwinKinds: runs, part 24 of 26. -/
import Derived.Test.YtoddgmlofhkndaaGreatDoorTkAwake
set_option linter.unusedVariables false
set_option linter.unusedSimpArgs false
set_option maxRecDepth 100000
set_option maxHeartbeats 4000000
namespace Go.Exe.Tryz
open Go Go.Exe
def tk_l23 : List KV := [.mk (.tup [.sym 0 .i64 (16) 1, .sym 1 .i64 (16) 7]) (.bool true)]
theorem tk_lot23 : chainX tk_ft (gl3 1 2 3) 3000 3 tk_l23 = true := by kernel_rfl
def tk_l49 : List KV := [.mk (.tup [.sym 0 .i64 (16) 3, .sym 1 .i64 (16) 1]) (.bool true)]
theorem tk_lot49 : chainX tk_ft (gl3 1 2 3) 3000 3 tk_l49 = true := by kernel_rfl
def tk_l75 : List KV := [.mk (.tup [.sym 0 .i64 (16) 4, .sym 1 .i64 (16) 11]) (.bool true)]
theorem tk_lot75 : chainX tk_ft (gl3 1 2 3) 3000 3 tk_l75 = true := by kernel_rfl
def tk_l101 : List KV := [.mk (.tup [.sym 0 .i64 (16) 6, .sym 1 .i64 (16) 5]) (.bool true)]
theorem tk_lot101 : chainX tk_ft (gl3 1 2 3) 3000 3 tk_l101 = true := by kernel_rfl
def tk_l127 : List KV := [.mk (.tup [.sym 0 .i64 (16) 7, .sym 1 .i64 (16) 15]) (.bool true)]
theorem tk_lot127 : chainX tk_ft (gl3 1 2 3) 3000 3 tk_l127 = true := by kernel_rfl
def tk_l153 : List KV := [.mk (.tup [.sym 0 .i64 (16) 9, .sym 1 .i64 (16) 9]) (.bool true)]
theorem tk_lot153 : chainX tk_ft (gl3 1 2 3) 3000 3 tk_l153 = true := by kernel_rfl
def tk_l179 : List KV := [.mk (.tup [.sym 0 .i64 (16) 11, .sym 1 .i64 (16) 3]) (.bool true)]
theorem tk_lot179 : chainX tk_ft (gl3 1 2 3) 3000 3 tk_l179 = true := by kernel_rfl
def tk_l205 : List KV := [.mk (.tup [.sym 0 .i64 (16) 12, .sym 1 .i64 (16) 13]) (.bool true)]
theorem tk_lot205 : chainX tk_ft (gl3 1 2 3) 3000 3 tk_l205 = true := by kernel_rfl
def tk_l231 : List KV := [.mk (.tup [.sym 0 .i64 (16) 14, .sym 1 .i64 (16) 7]) (.bool true)]
theorem tk_lot231 : chainX tk_ft (gl3 1 2 3) 3000 3 tk_l231 = true := by kernel_rfl
end Go.Exe.Tryz
