/- RateKinds: calls of its inner function, part 5 of 16. -/
import Derived.Test.YteilmpcdlpibgaaGreatDoorRkAwake
set_option linter.unusedVariables false
set_option linter.unusedSimpArgs false
set_option maxRecDepth 100000
set_option maxHeartbeats 4000000
namespace Go.Exe.Tryz
open Go Go.Exe
def rks_k4 : List Ke := [rk_e20, rk_e21, rk_e22, rk_e23, rk_e24]
def rks_l4 : List KV := [.mk (.tup [.str 5 434332508280]) (.bool false), .mk (.tup [.str 5 434331394168]) (.bool false), .mk (.tup [.str 5 434331525240]) (.bool false), .mk (.tup [.str 6 111188753391736]) (.bool false), .mk (.tup [.str 7 11651662904567910]) (.bool false)]
theorem rks_lot4 : chainX (ftE rk_ft 194 rks_k4) (gl3 0 2 3) 3000 6 rks_l4 = true := by kernel_rfl
def rks_k20 : List Ke := [rk_e100, rk_e101, rk_e102, rk_e103, rk_e104]
def rks_l20 : List KV := [.mk (.tup [.str 5 515935772787]) (.bool false), .mk (.tup [.str 5 515935903859]) (.bool false), .mk (.tup [.str 6 132079474319475]) (.bool false), .mk (.tup [.str 7 11672553625167974]) (.bool false), .mk (.tup [.str 8 7811896113396260979]) (.bool false)]
theorem rks_lot20 : chainX (ftE rk_ft 194 rks_k20) (gl3 0 2 3) 3000 6 rks_l20 = true := by kernel_rfl
def rks_k36 : List Ke := [rk_e180, rk_e181, rk_e182, rk_e183, rk_e184]
def rks_l36 : List KV := [.mk (.tup [.str 5 464396165221]) (.bool false), .mk (.tup [.str 5 464396296293]) (.bool false), .mk (.tup [.str 6 118885334786149]) (.bool false), .mk (.tup [.str 7 11659359484717158]) (.bool false), .mk (.tup [.str 6 108990117519461]) (.bool false)]
theorem rks_lot36 : chainX (ftE rk_ft 194 rks_k36) (gl3 0 2 3) 3000 6 rks_l36 = true := by kernel_rfl
def rks_k52 : List Ke := [rk_e260, rk_e261, rk_e262, rk_e263, rk_e264]
def rks_l52 : List KV := [.mk (.tup [.str 5 494460936300]) (.bool false), .mk (.tup [.str 5 494461067372]) (.bool false), .mk (.tup [.str 6 126581916180588]) (.bool false), .mk (.tup [.str 7 11667056066570342]) (.bool false), .mk (.tup [.str 6 111189140775020]) (.bool false)]
theorem rks_lot52 : chainX (ftE rk_ft 194 rks_k52) (gl3 0 2 3) 3000 6 rks_l52 = true := by kernel_rfl
def rks_k68 : List Ke := [rk_e340, rk_e341, rk_e342, rk_e343, rk_e344]
def rks_l68 : List KV := [.mk (.tup [.str 5 498756034659]) (.bool false), .mk (.tup [.str 6 127681427808355]) (.bool false), .mk (.tup [.str 7 11668155577608294]) (.bool false), .mk (.tup [.str 6 132079861702772]) (.bool false), .mk (.tup [.str 5 515936886900]) (.bool false)]
theorem rks_lot68 : chainX (ftE rk_ft 194 rks_k68) (gl3 0 2 3) 3000 6 rks_l68 = true := by kernel_rfl
end Go.Exe.Tryz
