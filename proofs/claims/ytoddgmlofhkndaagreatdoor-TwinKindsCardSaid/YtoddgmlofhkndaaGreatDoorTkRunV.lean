/- TwinKinds: runs, part 22 of 26. -/
import Derived.Test.YtoddgmlofhkndaaGreatDoorTkAwake
set_option linter.unusedVariables false
set_option linter.unusedSimpArgs false
set_option maxRecDepth 100000
set_option maxHeartbeats 4000000
namespace Go.Exe.Tryz
open Go Go.Exe
def tk_l21 : List KV := [.mk (.tup [.sym 0 .i64 (16) 1, .sym 1 .i64 (16) 5]) (.bool true)]
theorem tk_lot21 : chainX tk_ft (gl3 1 2 3) 3000 3 tk_l21 = true := by kernel_rfl
def tk_l47 : List KV := [.mk (.tup [.sym 0 .i64 (16) 2, .sym 1 .i64 (16) 15]) (.bool true)]
theorem tk_lot47 : chainX tk_ft (gl3 1 2 3) 3000 3 tk_l47 = true := by kernel_rfl
def tk_l73 : List KV := [.mk (.tup [.sym 0 .i64 (16) 4, .sym 1 .i64 (16) 9]) (.bool true)]
theorem tk_lot73 : chainX tk_ft (gl3 1 2 3) 3000 3 tk_l73 = true := by kernel_rfl
def tk_l99 : List KV := [.mk (.tup [.sym 0 .i64 (16) 6, .sym 1 .i64 (16) 3]) (.bool true)]
theorem tk_lot99 : chainX tk_ft (gl3 1 2 3) 3000 3 tk_l99 = true := by kernel_rfl
def tk_l125 : List KV := [.mk (.tup [.sym 0 .i64 (16) 7, .sym 1 .i64 (16) 13]) (.bool true)]
theorem tk_lot125 : chainX tk_ft (gl3 1 2 3) 3000 3 tk_l125 = true := by kernel_rfl
def tk_l151 : List KV := [.mk (.tup [.sym 0 .i64 (16) 9, .sym 1 .i64 (16) 7]) (.bool true)]
theorem tk_lot151 : chainX tk_ft (gl3 1 2 3) 3000 3 tk_l151 = true := by kernel_rfl
def tk_l177 : List KV := [.mk (.tup [.sym 0 .i64 (16) 11, .sym 1 .i64 (16) 1]) (.bool true)]
theorem tk_lot177 : chainX tk_ft (gl3 1 2 3) 3000 3 tk_l177 = true := by kernel_rfl
def tk_l203 : List KV := [.mk (.tup [.sym 0 .i64 (16) 12, .sym 1 .i64 (16) 11]) (.bool true)]
theorem tk_lot203 : chainX tk_ft (gl3 1 2 3) 3000 3 tk_l203 = true := by kernel_rfl
def tk_l229 : List KV := [.mk (.tup [.sym 0 .i64 (16) 14, .sym 1 .i64 (16) 5]) (.bool true)]
theorem tk_lot229 : chainX tk_ft (gl3 1 2 3) 3000 3 tk_l229 = true := by kernel_rfl
def tk_l255 : List KV := [.mk (.tup [.sym 0 .i64 (16) 15, .sym 1 .i64 (16) 15]) (.bool true)]
theorem tk_lot255 : chainX tk_ft (gl3 1 2 3) 3000 3 tk_l255 = true := by kernel_rfl
end Go.Exe.Tryz
