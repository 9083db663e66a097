/- RateKinds: calls of its inner function, part 9 of 16. -/
import Derived.Test.YteilmpcdlpibgaaGreatDoorRkAwake
set_option linter.unusedVariables false
set_option linter.unusedSimpArgs false
set_option maxRecDepth 100000
set_option maxHeartbeats 4000000
namespace Go.Exe.Tryz
open Go Go.Exe
def rks_k8 : List Ke := [rk_e40, rk_e41, rk_e42, rk_e43, rk_e44]
def rks_l8 : List KV := [.mk (.tup [.str 5 425741590648]) (.bool false), .mk (.tup [.str 6 108989730136184]) (.bool false), .mk (.tup [.str 7 11649463881312358]) (.bool false), .mk (.tup [.str 6 127681815191672]) (.bool false), .mk (.tup [.str 5 498757017720]) (.bool false)]
theorem rks_lot8 : chainX (ftE rk_ft 194 rks_k8) (gl3 0 2 3) 3000 6 rks_l8 = true := by kernel_rfl
def rks_k24 : List Ke := [rk_e120, rk_e121, rk_e122, rk_e123, rk_e124]
def rks_l24 : List KV := [.mk (.tup [.str 5 434331525235]) (.bool false), .mk (.tup [.str 6 111188753391731]) (.bool false), .mk (.tup [.str 7 11651662904240230]) (.bool false), .mk (.tup [.str 6 123283768680563]) (.bool false), .mk (.tup [.str 5 481577148531]) (.bool false)]
theorem rks_lot24 : chainX (ftE rk_ft 194 rks_k24) (gl3 0 2 3) 3000 6 rks_l24 = true := by kernel_rfl
def rks_k40 : List Ke := [rk_e200, rk_e201, rk_e202, rk_e203, rk_e204]
def rks_l40 : List KV := [.mk (.tup [.str 6 132079474319472]) (.bool false), .mk (.tup [.str 7 11672553624971366]) (.bool false), .mk (.tup [.str 8 7811896113396260976]) (.bool true), .mk (.tup [.str 6 107890605891696]) (.bool false), .mk (.tup [.str 5 421447606384]) (.bool false)]
theorem rks_lot40 : chainX (ftE rk_ft 194 rks_k40) (gl3 0 2 3) 3000 6 rks_l40 = true := by kernel_rfl
def rks_k56 : List Ke := [rk_e280, rk_e281, rk_e282, rk_e283, rk_e284]
def rks_l56 : List KV := [.mk (.tup [.str 6 118885334786156]) (.bool false), .mk (.tup [.str 7 11659359485175910]) (.bool false), .mk (.tup [.str 6 108990117519468]) (.bool false), .mk (.tup [.str 5 425742573676]) (.bool false), .mk (.tup [.str 5 425741459564]) (.bool false)]
theorem rks_lot56 : chainX (ftE rk_ft 194 rks_k56) (gl3 0 2 3) 3000 6 rks_l56 = true := by kernel_rfl
def rks_k72 : List Ke := [rk_e360, rk_e361, rk_e362, rk_e363, rk_e364]
def rks_l72 : List KV := [.mk (.tup [.str 6 126581916180596]) (.bool false), .mk (.tup [.str 7 11667056067094630]) (.bool false), .mk (.tup [.str 6 111189140775028]) (.bool false), .mk (.tup [.str 5 434332508276]) (.bool false), .mk (.tup [.str 5 434331394164]) (.bool false)]
theorem rks_lot72 : chainX (ftE rk_ft 194 rks_k72) (gl3 0 2 3) 3000 6 rks_l72 = true := by kernel_rfl
end Go.Exe.Tryz
