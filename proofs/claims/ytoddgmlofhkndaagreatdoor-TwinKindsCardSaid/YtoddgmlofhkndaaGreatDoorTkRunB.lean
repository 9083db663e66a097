/- TwinKinds: runs, part 2 of 26. -/
import Derived.Test.YtoddgmlofhkndaaGreatDoorTkAwake
set_option linter.unusedVariables false
set_option linter.unusedSimpArgs false
set_option maxRecDepth 100000
set_option maxHeartbeats 4000000
namespace Go.Exe.Tryz
open Go Go.Exe
def tk_l1 : List KV := [.mk (.tup [.sym 0 .i64 (16) 0, .sym 1 .i64 (16) 1]) (.bool true)]
theorem tk_lot1 : chainX tk_ft (gl3 1 2 3) 3000 3 tk_l1 = true := by kernel_rfl
def tk_l27 : List KV := [.mk (.tup [.sym 0 .i64 (16) 1, .sym 1 .i64 (16) 11]) (.bool true)]
theorem tk_lot27 : chainX tk_ft (gl3 1 2 3) 3000 3 tk_l27 = true := by kernel_rfl
def tk_l53 : List KV := [.mk (.tup [.sym 0 .i64 (16) 3, .sym 1 .i64 (16) 5]) (.bool true)]
theorem tk_lot53 : chainX tk_ft (gl3 1 2 3) 3000 3 tk_l53 = true := by kernel_rfl
def tk_l79 : List KV := [.mk (.tup [.sym 0 .i64 (16) 4, .sym 1 .i64 (16) 15]) (.bool true)]
theorem tk_lot79 : chainX tk_ft (gl3 1 2 3) 3000 3 tk_l79 = true := by kernel_rfl
def tk_l105 : List KV := [.mk (.tup [.sym 0 .i64 (16) 6, .sym 1 .i64 (16) 9]) (.bool true)]
theorem tk_lot105 : chainX tk_ft (gl3 1 2 3) 3000 3 tk_l105 = true := by kernel_rfl
def tk_l131 : List KV := [.mk (.tup [.sym 0 .i64 (16) 8, .sym 1 .i64 (16) 3]) (.bool true)]
theorem tk_lot131 : chainX tk_ft (gl3 1 2 3) 3000 3 tk_l131 = true := by kernel_rfl
def tk_l157 : List KV := [.mk (.tup [.sym 0 .i64 (16) 9, .sym 1 .i64 (16) 13]) (.bool true)]
theorem tk_lot157 : chainX tk_ft (gl3 1 2 3) 3000 3 tk_l157 = true := by kernel_rfl
def tk_l183 : List KV := [.mk (.tup [.sym 0 .i64 (16) 11, .sym 1 .i64 (16) 7]) (.bool true)]
theorem tk_lot183 : chainX tk_ft (gl3 1 2 3) 3000 3 tk_l183 = true := by kernel_rfl
def tk_l209 : List KV := [.mk (.tup [.sym 0 .i64 (16) 13, .sym 1 .i64 (16) 1]) (.bool true)]
theorem tk_lot209 : chainX tk_ft (gl3 1 2 3) 3000 3 tk_l209 = true := by kernel_rfl
def tk_l235 : List KV := [.mk (.tup [.sym 0 .i64 (16) 14, .sym 1 .i64 (16) 11]) (.bool true)]
theorem tk_lot235 : chainX tk_ft (gl3 1 2 3) 3000 3 tk_l235 = true := by kernel_rfl
end Go.Exe.Tryz
