/- RateKinds: calls of its inner function, part 14 of 16. -/
import Derived.Test.YteilmpcdlpibgaaGreatDoorRkAwake
set_option linter.unusedVariables false
set_option linter.unusedSimpArgs false
set_option maxRecDepth 100000
set_option maxHeartbeats 4000000
namespace Go.Exe.Tryz
open Go Go.Exe
def rks_k13 : List Ke := [rk_e65, rk_e66, rk_e67, rk_e68, rk_e69]
def rks_l13 : List KV := [.mk (.tup [.str 5 494461067362]) (.bool false), .mk (.tup [.str 6 126581916180578]) (.bool false), .mk (.tup [.str 7 11667056065914982]) (.bool false), .mk (.tup [.str 6 111189140775010]) (.bool false), .mk (.tup [.str 5 434332508258]) (.bool false)]
theorem rks_lot13 : chainX (ftE rk_ft 194 rks_k13) (gl3 0 2 3) 3000 6 rks_l13 = true := by kernel_rfl
def rks_k29 : List Ke := [rk_e145, rk_e146, rk_e147, rk_e148, rk_e149]
def rks_l29 : List KV := [.mk (.tup [.str 6 127681427808371]) (.bool false), .mk (.tup [.str 7 11668155578656870]) (.bool false), .mk (.tup [.str 6 132079861702757]) (.bool false), .mk (.tup [.str 5 515936886885]) (.bool false), .mk (.tup [.str 5 515935772773]) (.bool false)]
theorem rks_lot29 : chainX (ftE rk_ft 194 rks_k29) (gl3 0 2 3) 3000 6 rks_l29 = true := by kernel_rfl
def rks_k45 : List Ke := [rk_e225, rk_e226, rk_e227, rk_e228, rk_e229]
def rks_l45 : List KV := [.mk (.tup [.str 6 123283381297264]) (.bool false), .mk (.tup [.str 7 11663757531949158]) (.bool false), .mk (.tup [.str 6 118885722169456]) (.bool false), .mk (.tup [.str 5 464397279344]) (.bool false), .mk (.tup [.str 5 464396165232]) (.bool false)]
theorem rks_lot45 : chainX (ftE rk_ft 194 rks_k45) (gl3 0 2 3) 3000 6 rks_l45 = true := by kernel_rfl
def rks_k61 : List Ke := [rk_e305, rk_e306, rk_e307, rk_e308, rk_e309]
def rks_l61 : List KV := [.mk (.tup [.str 6 107890218508387]) (.bool false), .mk (.tup [.str 7 11648364368308326]) (.bool false), .mk (.tup [.str 6 126582303563875]) (.bool false), .mk (.tup [.str 5 494462050403]) (.bool false), .mk (.tup [.str 5 494460936291]) (.bool false)]
theorem rks_lot61 : chainX (ftE rk_ft 194 rks_k61) (gl3 0 2 3) 3000 6 rks_l61 = true := by kernel_rfl
def rks_k77 : List Ke := [rk_e385, rk_e386, rk_e387, rk_e388, rk_e389]
def rks_l77 : List KV := [.mk (.tup [.str 7 11649463881050214]) (.bool false), .mk (.tup [.str 6 127681815191668]) (.bool false), .mk (.tup [.str 5 498757017716]) (.bool false), .mk (.tup [.str 5 498755903604]) (.bool false), .mk (.tup [.str 5 498756034676]) (.bool false)]
theorem rks_lot77 : chainX (ftE rk_ft 194 rks_k77) (gl3 0 2 3) 3000 6 rks_l77 = true := by kernel_rfl
end Go.Exe.Tryz
