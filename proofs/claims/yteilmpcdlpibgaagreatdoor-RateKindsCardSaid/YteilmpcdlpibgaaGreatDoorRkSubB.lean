/- RateKinds: calls of its inner function, part 2 of 16. -/
import Derived.Test.YteilmpcdlpibgaaGreatDoorRkAwake
set_option linter.unusedVariables false
set_option linter.unusedSimpArgs false
set_option maxRecDepth 100000
set_option maxHeartbeats 4000000
namespace Go.Exe.Tryz
open Go Go.Exe
def rks_k1 : List Ke := [rk_e5, rk_e6, rk_e7, rk_e8, rk_e9]
def rks_l1 : List KV := [.mk (.tup [.str 7 11672553625495654]) (.bool false), .mk (.tup [.str 8 7811896113396260984]) (.bool false), .mk (.tup [.str 6 107890605891704]) (.bool false), .mk (.tup [.str 5 421447606392]) (.bool false), .mk (.tup [.str 5 421446492280]) (.bool false)]
theorem rks_lot1 : chainX (ftE rk_ft 194 rks_k1) (gl3 0 2 3) 3000 6 rks_l1 = true := by kernel_rfl
def rks_k17 : List Ke := [rk_e85, rk_e86, rk_e87, rk_e88, rk_e89]
def rks_l17 : List KV := [.mk (.tup [.str 7 11659359484520550]) (.bool false), .mk (.tup [.str 6 108990117519458]) (.bool false), .mk (.tup [.str 5 425742573666]) (.bool false), .mk (.tup [.str 5 425741459554]) (.bool false), .mk (.tup [.str 5 425741590626]) (.bool false)]
theorem rks_lot17 : chainX (ftE rk_ft 194 rks_k17) (gl3 0 2 3) 3000 6 rks_l17 = true := by kernel_rfl
def rks_k33 : List Ke := [rk_e165, rk_e166, rk_e167, rk_e168, rk_e169]
def rks_l33 : List KV := [.mk (.tup [.str 7 11667056066111590]) (.bool false), .mk (.tup [.str 6 111189140775013]) (.bool true), .mk (.tup [.str 5 434332508261]) (.bool false), .mk (.tup [.str 5 434331394149]) (.bool false), .mk (.tup [.str 5 434331525221]) (.bool false)]
theorem rks_lot33 : chainX (ftE rk_ft 194 rks_k33) (gl3 0 2 3) 3000 6 rks_l33 = true := by kernel_rfl
def rks_k49 : List Ke := [rk_e245, rk_e246, rk_e247, rk_e248, rk_e249]
def rks_l49 : List KV := [.mk (.tup [.str 6 132079861702764]) (.bool false), .mk (.tup [.str 5 515936886892]) (.bool false), .mk (.tup [.str 5 515935772780]) (.bool false), .mk (.tup [.str 5 515935903852]) (.bool false), .mk (.tup [.str 6 132079474319468]) (.bool false)]
theorem rks_lot49 : chainX (ftE rk_ft 194 rks_k49) (gl3 0 2 3) 3000 6 rks_l49 = true := by kernel_rfl
def rks_k65 : List Ke := [rk_e325, rk_e326, rk_e327, rk_e328, rk_e329]
def rks_l65 : List KV := [.mk (.tup [.str 6 118885722169443]) (.bool false), .mk (.tup [.str 5 464397279331]) (.bool false), .mk (.tup [.str 5 464396165219]) (.bool false), .mk (.tup [.str 5 464396296291]) (.bool false), .mk (.tup [.str 6 118885334786147]) (.bool false)]
theorem rks_lot65 : chainX (ftE rk_ft 194 rks_k65) (gl3 0 2 3) 3000 6 rks_l65 = true := by kernel_rfl
end Go.Exe.Tryz
