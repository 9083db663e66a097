/- RateKinds: calls of its inner function, part 8 of 16. -/
import Derived.Test.YteilmpcdlpibgaaGreatDoorRkAwake
set_option linter.unusedVariables false
set_option linter.unusedSimpArgs false
set_option maxRecDepth 100000
set_option maxHeartbeats 4000000
namespace Go.Exe.Tryz
open Go Go.Exe
def rks_k7 : List Ke := [rk_e35, rk_e36, rk_e37, rk_e38, rk_e39]
def rks_l7 : List KV := [.mk (.tup [.str 6 118885334786168]) (.bool false), .mk (.tup [.str 7 11659359485962342]) (.bool false), .mk (.tup [.str 6 108990117519480]) (.bool false), .mk (.tup [.str 5 425742573688]) (.bool false), .mk (.tup [.str 5 425741459576]) (.bool false)]
theorem rks_lot7 : chainX (ftE rk_ft 194 rks_k7) (gl3 0 2 3) 3000 6 rks_l7 = true := by kernel_rfl
def rks_k23 : List Ke := [rk_e115, rk_e116, rk_e117, rk_e118, rk_e119]
def rks_l23 : List KV := [.mk (.tup [.str 6 126581916180595]) (.bool false), .mk (.tup [.str 7 11667056067029094]) (.bool false), .mk (.tup [.str 6 111189140775027]) (.bool false), .mk (.tup [.str 5 434332508275]) (.bool false), .mk (.tup [.str 5 434331394163]) (.bool false)]
theorem rks_lot23 : chainX (ftE rk_ft 194 rks_k23) (gl3 0 2 3) 3000 6 rks_l23 = true := by kernel_rfl
def rks_k39 : List Ke := [rk_e195, rk_e196, rk_e197, rk_e198, rk_e199]
def rks_l39 : List KV := [.mk (.tup [.str 7 11668155577739366]) (.bool false), .mk (.tup [.str 6 132079861702768]) (.bool false), .mk (.tup [.str 5 515936886896]) (.bool false), .mk (.tup [.str 5 515935772784]) (.bool false), .mk (.tup [.str 5 515935903856]) (.bool false)]
theorem rks_lot39 : chainX (ftE rk_ft 194 rks_k39) (gl3 0 2 3) 3000 6 rks_l39 = true := by kernel_rfl
def rks_k55 : List Ke := [rk_e275, rk_e276, rk_e277, rk_e278, rk_e279]
def rks_l55 : List KV := [.mk (.tup [.str 7 11663757531687014]) (.bool false), .mk (.tup [.str 6 118885722169452]) (.bool false), .mk (.tup [.str 5 464397279340]) (.bool false), .mk (.tup [.str 5 464396165228]) (.bool false), .mk (.tup [.str 5 464396296300]) (.bool false)]
theorem rks_lot55 : chainX (ftE rk_ft 194 rks_k55) (gl3 0 2 3) 3000 6 rks_l55 = true := by kernel_rfl
def rks_k71 : List Ke := [rk_e355, rk_e356, rk_e357, rk_e358, rk_e359]
def rks_l71 : List KV := [.mk (.tup [.str 7 11648364369422438]) (.bool false), .mk (.tup [.str 6 126582303563892]) (.bool false), .mk (.tup [.str 5 494462050420]) (.bool false), .mk (.tup [.str 5 494460936308]) (.bool false), .mk (.tup [.str 5 494461067380]) (.bool false)]
theorem rks_lot71 : chainX (ftE rk_ft 194 rks_k71) (gl3 0 2 3) 3000 6 rks_l71 = true := by kernel_rfl
end Go.Exe.Tryz
