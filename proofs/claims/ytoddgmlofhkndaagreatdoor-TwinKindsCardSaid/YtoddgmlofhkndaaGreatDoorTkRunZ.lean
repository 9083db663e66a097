/- TwinKinds: runs, part 26 of 26. -/
import Derived.Test.YtoddgmlofhkndaaGreatDoorTkAwake
set_option linter.unusedVariables false
set_option linter.unusedSimpArgs false
set_option maxRecDepth 100000
set_option maxHeartbeats 4000000
namespace Go.Exe.Tryz
open Go Go.Exe
def tk_l25 : List KV := [.mk (.tup [.sym 0 .i64 (16) 1, .sym 1 .i64 (16) 9]) (.bool true)]
theorem tk_lot25 : chainX tk_ft (gl3 1 2 3) 3000 3 tk_l25 = true := by kernel_rfl
def tk_l51 : List KV := [.mk (.tup [.sym 0 .i64 (16) 3, .sym 1 .i64 (16) 3]) (.bool true)]
theorem tk_lot51 : chainX tk_ft (gl3 1 2 3) 3000 3 tk_l51 = true := by kernel_rfl
def tk_l77 : List KV := [.mk (.tup [.sym 0 .i64 (16) 4, .sym 1 .i64 (16) 13]) (.bool true)]
theorem tk_lot77 : chainX tk_ft (gl3 1 2 3) 3000 3 tk_l77 = true := by kernel_rfl
def tk_l103 : List KV := [.mk (.tup [.sym 0 .i64 (16) 6, .sym 1 .i64 (16) 7]) (.bool true)]
theorem tk_lot103 : chainX tk_ft (gl3 1 2 3) 3000 3 tk_l103 = true := by kernel_rfl
def tk_l129 : List KV := [.mk (.tup [.sym 0 .i64 (16) 8, .sym 1 .i64 (16) 1]) (.bool true)]
theorem tk_lot129 : chainX tk_ft (gl3 1 2 3) 3000 3 tk_l129 = true := by kernel_rfl
def tk_l155 : List KV := [.mk (.tup [.sym 0 .i64 (16) 9, .sym 1 .i64 (16) 11]) (.bool true)]
theorem tk_lot155 : chainX tk_ft (gl3 1 2 3) 3000 3 tk_l155 = true := by kernel_rfl
def tk_l181 : List KV := [.mk (.tup [.sym 0 .i64 (16) 11, .sym 1 .i64 (16) 5]) (.bool true)]
theorem tk_lot181 : chainX tk_ft (gl3 1 2 3) 3000 3 tk_l181 = true := by kernel_rfl
def tk_l207 : List KV := [.mk (.tup [.sym 0 .i64 (16) 12, .sym 1 .i64 (16) 15]) (.bool true)]
theorem tk_lot207 : chainX tk_ft (gl3 1 2 3) 3000 3 tk_l207 = true := by kernel_rfl
def tk_l233 : List KV := [.mk (.tup [.sym 0 .i64 (16) 14, .sym 1 .i64 (16) 9]) (.bool true)]
theorem tk_lot233 : chainX tk_ft (gl3 1 2 3) 3000 3 tk_l233 = true := by kernel_rfl
end Go.Exe.Tryz
