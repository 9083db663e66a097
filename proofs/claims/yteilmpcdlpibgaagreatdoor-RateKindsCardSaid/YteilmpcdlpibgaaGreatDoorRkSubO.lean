/- RateKinds: calls of its inner function, part 15 of 16. -/
import Derived.Test.YteilmpcdlpibgaaGreatDoorRkAwake
set_option linter.unusedVariables false
set_option linter.unusedSimpArgs false
set_option maxRecDepth 100000
set_option maxHeartbeats 4000000
namespace Go.Exe.Tryz
open Go Go.Exe
def rks_k14 : List Ke := [rk_e70, rk_e71, rk_e72, rk_e73, rk_e74]
def rks_l14 : List KV := [.mk (.tup [.str 5 434331394146]) (.bool false), .mk (.tup [.str 5 434331525218]) (.bool false), .mk (.tup [.str 6 111188753391714]) (.bool false), .mk (.tup [.str 7 11651662903126118]) (.bool false), .mk (.tup [.str 6 123283768680546]) (.bool false)]
theorem rks_lot14 : chainX (ftE rk_ft 194 rks_k14) (gl3 0 2 3) 3000 6 rks_l14 = true := by kernel_rfl
def rks_k30 : List Ke := [rk_e150, rk_e151, rk_e152, rk_e153, rk_e154]
def rks_l30 : List KV := [.mk (.tup [.str 5 515935903845]) (.bool false), .mk (.tup [.str 6 132079474319461]) (.bool false), .mk (.tup [.str 7 11672553624250470]) (.bool false), .mk (.tup [.str 8 7811896113396260965]) (.bool true), .mk (.tup [.str 6 107890605891685]) (.bool false)]
theorem rks_lot30 : chainX (ftE rk_ft 194 rks_k30) (gl3 0 2 3) 3000 6 rks_l30 = true := by kernel_rfl
def rks_k46 : List Ke := [rk_e230, rk_e231, rk_e232, rk_e233, rk_e234]
def rks_l46 : List KV := [.mk (.tup [.str 5 464396296304]) (.bool false), .mk (.tup [.str 6 118885334786160]) (.bool false), .mk (.tup [.str 7 11659359485438054]) (.bool false), .mk (.tup [.str 6 108990117519472]) (.bool false), .mk (.tup [.str 5 425742573680]) (.bool false)]
theorem rks_lot46 : chainX (ftE rk_ft 194 rks_k46) (gl3 0 2 3) 3000 6 rks_l46 = true := by kernel_rfl
def rks_k62 : List Ke := [rk_e310, rk_e311, rk_e312, rk_e313, rk_e314]
def rks_l62 : List KV := [.mk (.tup [.str 5 494461067363]) (.bool false), .mk (.tup [.str 6 126581916180579]) (.bool false), .mk (.tup [.str 7 11667056065980518]) (.bool false), .mk (.tup [.str 6 111189140775011]) (.bool false), .mk (.tup [.str 5 434332508259]) (.bool false)]
theorem rks_lot62 : chainX (ftE rk_ft 194 rks_k62) (gl3 0 2 3) 3000 6 rks_l62 = true := by kernel_rfl
def rks_k78 : List Ke := [rk_e390, rk_e391]
def rks_l78 : List KV := [.mk (.tup [.str 6 127681427808372]) (.bool false), .mk (.tup [.str 7 11668155578722406]) (.bool false)]
theorem rks_lot78 : chainX (ftE rk_ft 194 rks_k78) (gl3 0 2 3) 3000 6 rks_l78 = true := by kernel_rfl
end Go.Exe.Tryz
