/- TwinKinds: runs, part 4 of 26. -/
import Derived.Test.YtoddgmlofhkndaaGreatDoorTkAwake
set_option linter.unusedVariables false
set_option linter.unusedSimpArgs false
set_option maxRecDepth 100000
set_option maxHeartbeats 4000000
namespace Go.Exe.Tryz
open Go Go.Exe
def tk_l3 : List KV := [.mk (.tup [.sym 0 .i64 (16) 0, .sym 1 .i64 (16) 3]) (.bool true)]
theorem tk_lot3 : chainX tk_ft (gl3 1 2 3) 3000 3 tk_l3 = true := by kernel_rfl
def tk_l29 : List KV := [.mk (.tup [.sym 0 .i64 (16) 1, .sym 1 .i64 (16) 13]) (.bool true)]
theorem tk_lot29 : chainX tk_ft (gl3 1 2 3) 3000 3 tk_l29 = true := by kernel_rfl
def tk_l55 : List KV := [.mk (.tup [.sym 0 .i64 (16) 3, .sym 1 .i64 (16) 7]) (.bool true)]
theorem tk_lot55 : chainX tk_ft (gl3 1 2 3) 3000 3 tk_l55 = true := by kernel_rfl
def tk_l81 : List KV := [.mk (.tup [.sym 0 .i64 (16) 5, .sym 1 .i64 (16) 1]) (.bool true)]
theorem tk_lot81 : chainX tk_ft (gl3 1 2 3) 3000 3 tk_l81 = true := by kernel_rfl
def tk_l107 : List KV := [.mk (.tup [.sym 0 .i64 (16) 6, .sym 1 .i64 (16) 11]) (.bool true)]
theorem tk_lot107 : chainX tk_ft (gl3 1 2 3) 3000 3 tk_l107 = true := by kernel_rfl
def tk_l133 : List KV := [.mk (.tup [.sym 0 .i64 (16) 8, .sym 1 .i64 (16) 5]) (.bool true)]
theorem tk_lot133 : chainX tk_ft (gl3 1 2 3) 3000 3 tk_l133 = true := by kernel_rfl
def tk_l159 : List KV := [.mk (.tup [.sym 0 .i64 (16) 9, .sym 1 .i64 (16) 15]) (.bool true)]
theorem tk_lot159 : chainX tk_ft (gl3 1 2 3) 3000 3 tk_l159 = true := by kernel_rfl
def tk_l185 : List KV := [.mk (.tup [.sym 0 .i64 (16) 11, .sym 1 .i64 (16) 9]) (.bool true)]
theorem tk_lot185 : chainX tk_ft (gl3 1 2 3) 3000 3 tk_l185 = true := by kernel_rfl
def tk_l211 : List KV := [.mk (.tup [.sym 0 .i64 (16) 13, .sym 1 .i64 (16) 3]) (.bool true)]
theorem tk_lot211 : chainX tk_ft (gl3 1 2 3) 3000 3 tk_l211 = true := by kernel_rfl
def tk_l237 : List KV := [.mk (.tup [.sym 0 .i64 (16) 14, .sym 1 .i64 (16) 13]) (.bool true)]
theorem tk_lot237 : chainX tk_ft (gl3 1 2 3) 3000 3 tk_l237 = true := by kernel_rfl
end Go.Exe.Tryz
