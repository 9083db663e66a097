/- RateKinds: calls of its inner function, part 16 of 16. -/
import Derived.Test.YteilmpcdlpibgaaGreatDoorRkAwake
set_option linter.unusedVariables false
set_option linter.unusedSimpArgs false
set_option maxRecDepth 100000
set_option maxHeartbeats 4000000
namespace Go.Exe.Tryz
open Go Go.Exe
def rks_k15 : List Ke := [rk_e75, rk_e76, rk_e77, rk_e78, rk_e79]
def rks_l15 : List KV := [.mk (.tup [.str 5 481577148514]) (.bool false), .mk (.tup [.str 5 481576034402]) (.bool false), .mk (.tup [.str 5 481576165474]) (.bool false), .mk (.tup [.str 6 123283381297250]) (.bool false), .mk (.tup [.str 7 11663757531031654]) (.bool false)]
theorem rks_lot15 : chainX (ftE rk_ft 194 rks_k15) (gl3 0 2 3) 3000 6 rks_l15 = true := by kernel_rfl
def rks_k31 : List Ke := [rk_e155, rk_e156, rk_e157, rk_e158, rk_e159]
def rks_l31 : List KV := [.mk (.tup [.str 5 421447606373]) (.bool false), .mk (.tup [.str 5 421446492261]) (.bool false), .mk (.tup [.str 5 421446623333]) (.bool false), .mk (.tup [.str 6 107890218508389]) (.bool false), .mk (.tup [.str 7 11648364368439398]) (.bool false)]
theorem rks_lot31 : chainX (ftE rk_ft 194 rks_k31) (gl3 0 2 3) 3000 6 rks_l31 = true := by kernel_rfl
def rks_k47 : List Ke := [rk_e235, rk_e236, rk_e237, rk_e238, rk_e239]
def rks_l47 : List KV := [.mk (.tup [.str 5 425741459568]) (.bool false), .mk (.tup [.str 5 425741590640]) (.bool false), .mk (.tup [.str 6 108989730136176]) (.bool false), .mk (.tup [.str 7 11649463880788070]) (.bool false), .mk (.tup [.str 6 127681815191664]) (.bool false)]
theorem rks_lot47 : chainX (ftE rk_ft 194 rks_k47) (gl3 0 2 3) 3000 6 rks_l47 = true := by kernel_rfl
def rks_k63 : List Ke := [rk_e315, rk_e316, rk_e317, rk_e318, rk_e319]
def rks_l63 : List KV := [.mk (.tup [.str 5 434331394147]) (.bool false), .mk (.tup [.str 5 434331525219]) (.bool false), .mk (.tup [.str 6 111188753391715]) (.bool false), .mk (.tup [.str 7 11651662903191654]) (.bool false), .mk (.tup [.str 6 123283768680547]) (.bool false)]
theorem rks_lot63 : chainX (ftE rk_ft 194 rks_k63) (gl3 0 2 3) 3000 6 rks_l63 = true := by kernel_rfl
end Go.Exe.Tryz
