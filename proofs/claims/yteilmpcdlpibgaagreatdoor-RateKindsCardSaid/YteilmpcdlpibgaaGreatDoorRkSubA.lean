/- RateKinds: calls of its inner function, part 1 of 16. -/
import Derived.Test.YteilmpcdlpibgaaGreatDoorRkAwake
set_option linter.unusedVariables false
set_option linter.unusedSimpArgs false
set_option maxRecDepth 100000
set_option maxHeartbeats 4000000
namespace Go.Exe.Tryz
open Go Go.Exe
def rks_k0 : List Ke := [rk_e0, rk_e1, rk_e2, rk_e3, rk_e4]
def rks_l0 : List KV := [.mk (.tup [.str 6 132079861702776]) (.bool true), .mk (.tup [.str 5 515936886904]) (.bool true), .mk (.tup [.str 5 515935772792]) (.bool true), .mk (.tup [.str 5 515935903864]) (.bool true), .mk (.tup [.str 6 132079474319480]) (.bool false)]
theorem rks_lot0 : chainX (ftE rk_ft 194 rks_k0) (gl3 0 2 3) 3000 6 rks_l0 = true := by kernel_rfl
def rks_k16 : List Ke := [rk_e80, rk_e81, rk_e82, rk_e83, rk_e84]
def rks_l16 : List KV := [.mk (.tup [.str 6 118885722169442]) (.bool false), .mk (.tup [.str 5 464397279330]) (.bool false), .mk (.tup [.str 5 464396165218]) (.bool false), .mk (.tup [.str 5 464396296290]) (.bool false), .mk (.tup [.str 6 118885334786146]) (.bool false)]
theorem rks_lot16 : chainX (ftE rk_ft 194 rks_k16) (gl3 0 2 3) 3000 6 rks_l16 = true := by kernel_rfl
def rks_k32 : List Ke := [rk_e160, rk_e161, rk_e162, rk_e163, rk_e164]
def rks_l32 : List KV := [.mk (.tup [.str 6 126582303563877]) (.bool false), .mk (.tup [.str 5 494462050405]) (.bool false), .mk (.tup [.str 5 494460936293]) (.bool false), .mk (.tup [.str 5 494461067365]) (.bool false), .mk (.tup [.str 6 126581916180581]) (.bool false)]
theorem rks_lot32 : chainX (ftE rk_ft 194 rks_k32) (gl3 0 2 3) 3000 6 rks_l32 = true := by kernel_rfl
def rks_k48 : List Ke := [rk_e240, rk_e241, rk_e242, rk_e243, rk_e244]
def rks_l48 : List KV := [.mk (.tup [.str 5 498757017712]) (.bool false), .mk (.tup [.str 5 498755903600]) (.bool false), .mk (.tup [.str 5 498756034672]) (.bool false), .mk (.tup [.str 6 127681427808368]) (.bool false), .mk (.tup [.str 7 11668155578460262]) (.bool false)]
theorem rks_lot48 : chainX (ftE rk_ft 194 rks_k48) (gl3 0 2 3) 3000 6 rks_l48 = true := by kernel_rfl
def rks_k64 : List Ke := [rk_e320, rk_e321, rk_e322, rk_e323, rk_e324]
def rks_l64 : List KV := [.mk (.tup [.str 5 481577148515]) (.bool false), .mk (.tup [.str 5 481576034403]) (.bool false), .mk (.tup [.str 5 481576165475]) (.bool false), .mk (.tup [.str 6 123283381297251]) (.bool false), .mk (.tup [.str 7 11663757531097190]) (.bool false)]
theorem rks_lot64 : chainX (ftE rk_ft 194 rks_k64) (gl3 0 2 3) 3000 6 rks_l64 = true := by kernel_rfl
end Go.Exe.Tryz
