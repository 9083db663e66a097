/- The function table of the seat's program as a tree, its law, and the static check of every function, by the kernel. -/
import Derived.Test.YtdlpbhjihdfoaaaGreatDoorExeD
import Derived.Test.YtdlpbhjihdfoaaaGreatDoorChecked
import Derived.Eval
import Derived.KernelRfl
set_option maxRecDepth 100000
namespace Go.Exe.Tryz
open Go Go.Exe Go.Proofs
noncomputable def ft0 (f : Nat) : Fc := (bel (bel (bel (bel (bel (cFn Go.Proofs.Tryz.prog Go.Proofs.Tryz.f31) (cFn Go.Proofs.Tryz.prog Go.Proofs.Tryz.f30) (Nat.ble f 30)) (bel (cFn Go.Proofs.Tryz.prog Go.Proofs.Tryz.f29) (cFn Go.Proofs.Tryz.prog Go.Proofs.Tryz.f28) (Nat.ble f 28)) (Nat.ble f 29)) (bel (bel (cFn Go.Proofs.Tryz.prog Go.Proofs.Tryz.f27) (cFn Go.Proofs.Tryz.prog Go.Proofs.Tryz.f26) (Nat.ble f 26)) (bel (cFn Go.Proofs.Tryz.prog Go.Proofs.Tryz.f25) (cFn Go.Proofs.Tryz.prog Go.Proofs.Tryz.f24) (Nat.ble f 24)) (Nat.ble f 25)) (Nat.ble f 27)) (bel (bel (bel (cFn Go.Proofs.Tryz.prog Go.Proofs.Tryz.f23) (cFn Go.Proofs.Tryz.prog Go.Proofs.Tryz.f22) (Nat.ble f 22)) (bel (cFn Go.Proofs.Tryz.prog Go.Proofs.Tryz.f21) (cFn Go.Proofs.Tryz.prog Go.Proofs.Tryz.f20) (Nat.ble f 20)) (Nat.ble f 21)) (bel (bel (cFn Go.Proofs.Tryz.prog Go.Proofs.Tryz.f19) (cFn Go.Proofs.Tryz.prog Go.Proofs.Tryz.f18) (Nat.ble f 18)) (bel (cFn Go.Proofs.Tryz.prog Go.Proofs.Tryz.f17) (cFn Go.Proofs.Tryz.prog Go.Proofs.Tryz.f16) (Nat.ble f 16)) (Nat.ble f 17)) (Nat.ble f 19)) (Nat.ble f 23)) (bel (bel (bel (bel (cFn Go.Proofs.Tryz.prog Go.Proofs.Tryz.f15) (cFn Go.Proofs.Tryz.prog Go.Proofs.Tryz.f14) (Nat.ble f 14)) (bel (cFn Go.Proofs.Tryz.prog Go.Proofs.Tryz.f13) (cFn Go.Proofs.Tryz.prog Go.Proofs.Tryz.f12) (Nat.ble f 12)) (Nat.ble f 13)) (bel (bel (cFn Go.Proofs.Tryz.prog Go.Proofs.Tryz.f11) (cFn Go.Proofs.Tryz.prog Go.Proofs.Tryz.f10) (Nat.ble f 10)) (bel (cFn Go.Proofs.Tryz.prog Go.Proofs.Tryz.f9) (cFn Go.Proofs.Tryz.prog Go.Proofs.Tryz.f8) (Nat.ble f 8)) (Nat.ble f 9)) (Nat.ble f 11)) (bel (bel (bel (cFn Go.Proofs.Tryz.prog Go.Proofs.Tryz.f7) (cFn Go.Proofs.Tryz.prog Go.Proofs.Tryz.f6) (Nat.ble f 6)) (bel (cFn Go.Proofs.Tryz.prog Go.Proofs.Tryz.f5) (cFn Go.Proofs.Tryz.prog Go.Proofs.Tryz.f4) (Nat.ble f 4)) (Nat.ble f 5)) (bel (bel (cFn Go.Proofs.Tryz.prog Go.Proofs.Tryz.f3) (cFn Go.Proofs.Tryz.prog Go.Proofs.Tryz.f2) (Nat.ble f 2)) (bel (cFn Go.Proofs.Tryz.prog Go.Proofs.Tryz.f1) (cFn Go.Proofs.Tryz.prog Go.Proofs.Tryz.f0) (Nat.ble f 0)) (Nat.ble f 1)) (Nat.ble f 3)) (Nat.ble f 7)) (Nat.ble f 15))
noncomputable def ft32 (f : Nat) : Fc := (bel (bel (bel (bel (bel (cFn Go.Proofs.Tryz.prog Go.Proofs.Tryz.f63) (cFn Go.Proofs.Tryz.prog Go.Proofs.Tryz.f62) (Nat.ble f 62)) (bel (cFn Go.Proofs.Tryz.prog Go.Proofs.Tryz.f61) (cFn Go.Proofs.Tryz.prog Go.Proofs.Tryz.f60) (Nat.ble f 60)) (Nat.ble f 61)) (bel (bel (cFn Go.Proofs.Tryz.prog Go.Proofs.Tryz.f59) (cFn Go.Proofs.Tryz.prog Go.Proofs.Tryz.f58) (Nat.ble f 58)) (bel (cFn Go.Proofs.Tryz.prog Go.Proofs.Tryz.f57) (cFn Go.Proofs.Tryz.prog Go.Proofs.Tryz.f56) (Nat.ble f 56)) (Nat.ble f 57)) (Nat.ble f 59)) (bel (bel (bel (cFn Go.Proofs.Tryz.prog Go.Proofs.Tryz.f55) (cFn Go.Proofs.Tryz.prog Go.Proofs.Tryz.f54) (Nat.ble f 54)) (bel (cFn Go.Proofs.Tryz.prog Go.Proofs.Tryz.f53) (cFn Go.Proofs.Tryz.prog Go.Proofs.Tryz.f52) (Nat.ble f 52)) (Nat.ble f 53)) (bel (bel (cFn Go.Proofs.Tryz.prog Go.Proofs.Tryz.f51) (cFn Go.Proofs.Tryz.prog Go.Proofs.Tryz.f50) (Nat.ble f 50)) (bel (cFn Go.Proofs.Tryz.prog Go.Proofs.Tryz.f49) (cFn Go.Proofs.Tryz.prog Go.Proofs.Tryz.f48) (Nat.ble f 48)) (Nat.ble f 49)) (Nat.ble f 51)) (Nat.ble f 55)) (bel (bel (bel (bel (cFn Go.Proofs.Tryz.prog Go.Proofs.Tryz.f47) (cFn Go.Proofs.Tryz.prog Go.Proofs.Tryz.f46) (Nat.ble f 46)) (bel (cFn Go.Proofs.Tryz.prog Go.Proofs.Tryz.f45) (cFn Go.Proofs.Tryz.prog Go.Proofs.Tryz.f44) (Nat.ble f 44)) (Nat.ble f 45)) (bel (bel (cFn Go.Proofs.Tryz.prog Go.Proofs.Tryz.f43) (cFn Go.Proofs.Tryz.prog Go.Proofs.Tryz.f42) (Nat.ble f 42)) (bel (cFn Go.Proofs.Tryz.prog Go.Proofs.Tryz.f41) (cFn Go.Proofs.Tryz.prog Go.Proofs.Tryz.f40) (Nat.ble f 40)) (Nat.ble f 41)) (Nat.ble f 43)) (bel (bel (bel (cFn Go.Proofs.Tryz.prog Go.Proofs.Tryz.f39) (cFn Go.Proofs.Tryz.prog Go.Proofs.Tryz.f38) (Nat.ble f 38)) (bel (cFn Go.Proofs.Tryz.prog Go.Proofs.Tryz.f37) (cFn Go.Proofs.Tryz.prog Go.Proofs.Tryz.f36) (Nat.ble f 36)) (Nat.ble f 37)) (bel (bel (cFn Go.Proofs.Tryz.prog Go.Proofs.Tryz.f35) (cFn Go.Proofs.Tryz.prog Go.Proofs.Tryz.f34) (Nat.ble f 34)) (bel (cFn Go.Proofs.Tryz.prog Go.Proofs.Tryz.f33) (cFn Go.Proofs.Tryz.prog Go.Proofs.Tryz.f32) (Nat.ble f 32)) (Nat.ble f 33)) (Nat.ble f 35)) (Nat.ble f 39)) (Nat.ble f 47))
noncomputable def ft64 (f : Nat) : Fc := (bel (bel (bel (bel (bel (cFn Go.Proofs.Tryz.prog Go.Proofs.Tryz.f95) (cFn Go.Proofs.Tryz.prog Go.Proofs.Tryz.f94) (Nat.ble f 94)) (bel (cFn Go.Proofs.Tryz.prog Go.Proofs.Tryz.f93) (cFn Go.Proofs.Tryz.prog Go.Proofs.Tryz.f92) (Nat.ble f 92)) (Nat.ble f 93)) (bel (bel (cFn Go.Proofs.Tryz.prog Go.Proofs.Tryz.f91) (cFn Go.Proofs.Tryz.prog Go.Proofs.Tryz.f90) (Nat.ble f 90)) (bel (cFn Go.Proofs.Tryz.prog Go.Proofs.Tryz.f89) (cFn Go.Proofs.Tryz.prog Go.Proofs.Tryz.f88) (Nat.ble f 88)) (Nat.ble f 89)) (Nat.ble f 91)) (bel (bel (bel (cFn Go.Proofs.Tryz.prog Go.Proofs.Tryz.f87) (cFn Go.Proofs.Tryz.prog Go.Proofs.Tryz.f86) (Nat.ble f 86)) (bel (cFn Go.Proofs.Tryz.prog Go.Proofs.Tryz.f85) (cFn Go.Proofs.Tryz.prog Go.Proofs.Tryz.f84) (Nat.ble f 84)) (Nat.ble f 85)) (bel (bel (cFn Go.Proofs.Tryz.prog Go.Proofs.Tryz.f83) (cFn Go.Proofs.Tryz.prog Go.Proofs.Tryz.f82) (Nat.ble f 82)) (bel (cFn Go.Proofs.Tryz.prog Go.Proofs.Tryz.f81) (cFn Go.Proofs.Tryz.prog Go.Proofs.Tryz.f80) (Nat.ble f 80)) (Nat.ble f 81)) (Nat.ble f 83)) (Nat.ble f 87)) (bel (bel (bel (bel (cFn Go.Proofs.Tryz.prog Go.Proofs.Tryz.f79) (cFn Go.Proofs.Tryz.prog Go.Proofs.Tryz.f78) (Nat.ble f 78)) (bel (cFn Go.Proofs.Tryz.prog Go.Proofs.Tryz.f77) (cFn Go.Proofs.Tryz.prog Go.Proofs.Tryz.f76) (Nat.ble f 76)) (Nat.ble f 77)) (bel (bel (cFn Go.Proofs.Tryz.prog Go.Proofs.Tryz.f75) (cFn Go.Proofs.Tryz.prog Go.Proofs.Tryz.f74) (Nat.ble f 74)) (bel (cFn Go.Proofs.Tryz.prog Go.Proofs.Tryz.f73) (cFn Go.Proofs.Tryz.prog Go.Proofs.Tryz.f72) (Nat.ble f 72)) (Nat.ble f 73)) (Nat.ble f 75)) (bel (bel (bel (cFn Go.Proofs.Tryz.prog Go.Proofs.Tryz.f71) (cFn Go.Proofs.Tryz.prog Go.Proofs.Tryz.f70) (Nat.ble f 70)) (bel (cFn Go.Proofs.Tryz.prog Go.Proofs.Tryz.f69) (cFn Go.Proofs.Tryz.prog Go.Proofs.Tryz.f68) (Nat.ble f 68)) (Nat.ble f 69)) (bel (bel (cFn Go.Proofs.Tryz.prog Go.Proofs.Tryz.f67) (cFn Go.Proofs.Tryz.prog Go.Proofs.Tryz.f66) (Nat.ble f 66)) (bel (cFn Go.Proofs.Tryz.prog Go.Proofs.Tryz.f65) (cFn Go.Proofs.Tryz.prog Go.Proofs.Tryz.f64) (Nat.ble f 64)) (Nat.ble f 65)) (Nat.ble f 67)) (Nat.ble f 71)) (Nat.ble f 79))
noncomputable def ft96 (f : Nat) : Fc := (bel (bel (bel (bel (bel (cFn Go.Proofs.Tryz.prog Go.Proofs.Tryz.f127) (cFn Go.Proofs.Tryz.prog Go.Proofs.Tryz.f126) (Nat.ble f 126)) (bel (cFn Go.Proofs.Tryz.prog Go.Proofs.Tryz.f125) (cFn Go.Proofs.Tryz.prog Go.Proofs.Tryz.f124) (Nat.ble f 124)) (Nat.ble f 125)) (bel (bel (cFn Go.Proofs.Tryz.prog Go.Proofs.Tryz.f123) (cFn Go.Proofs.Tryz.prog Go.Proofs.Tryz.f122) (Nat.ble f 122)) (bel (cFn Go.Proofs.Tryz.prog Go.Proofs.Tryz.f121) (cFn Go.Proofs.Tryz.prog Go.Proofs.Tryz.f120) (Nat.ble f 120)) (Nat.ble f 121)) (Nat.ble f 123)) (bel (bel (bel (cFn Go.Proofs.Tryz.prog Go.Proofs.Tryz.f119) (cFn Go.Proofs.Tryz.prog Go.Proofs.Tryz.f118) (Nat.ble f 118)) (bel (cFn Go.Proofs.Tryz.prog Go.Proofs.Tryz.f117) (cFn Go.Proofs.Tryz.prog Go.Proofs.Tryz.f116) (Nat.ble f 116)) (Nat.ble f 117)) (bel (bel (cFn Go.Proofs.Tryz.prog Go.Proofs.Tryz.f115) (cFn Go.Proofs.Tryz.prog Go.Proofs.Tryz.f114) (Nat.ble f 114)) (bel (cFn Go.Proofs.Tryz.prog Go.Proofs.Tryz.f113) (cFn Go.Proofs.Tryz.prog Go.Proofs.Tryz.f112) (Nat.ble f 112)) (Nat.ble f 113)) (Nat.ble f 115)) (Nat.ble f 119)) (bel (bel (bel (bel (cFn Go.Proofs.Tryz.prog Go.Proofs.Tryz.f111) (cFn Go.Proofs.Tryz.prog Go.Proofs.Tryz.f110) (Nat.ble f 110)) (bel (cFn Go.Proofs.Tryz.prog Go.Proofs.Tryz.f109) (cFn Go.Proofs.Tryz.prog Go.Proofs.Tryz.f108) (Nat.ble f 108)) (Nat.ble f 109)) (bel (bel (cFn Go.Proofs.Tryz.prog Go.Proofs.Tryz.f107) (cFn Go.Proofs.Tryz.prog Go.Proofs.Tryz.f106) (Nat.ble f 106)) (bel (cFn Go.Proofs.Tryz.prog Go.Proofs.Tryz.f105) (cFn Go.Proofs.Tryz.prog Go.Proofs.Tryz.f104) (Nat.ble f 104)) (Nat.ble f 105)) (Nat.ble f 107)) (bel (bel (bel (cFn Go.Proofs.Tryz.prog Go.Proofs.Tryz.f103) (cFn Go.Proofs.Tryz.prog Go.Proofs.Tryz.f102) (Nat.ble f 102)) (bel (cFn Go.Proofs.Tryz.prog Go.Proofs.Tryz.f101) (cFn Go.Proofs.Tryz.prog Go.Proofs.Tryz.f100) (Nat.ble f 100)) (Nat.ble f 101)) (bel (bel (cFn Go.Proofs.Tryz.prog Go.Proofs.Tryz.f99) (cFn Go.Proofs.Tryz.prog Go.Proofs.Tryz.f98) (Nat.ble f 98)) (bel (cFn Go.Proofs.Tryz.prog Go.Proofs.Tryz.f97) (cFn Go.Proofs.Tryz.prog Go.Proofs.Tryz.f96) (Nat.ble f 96)) (Nat.ble f 97)) (Nat.ble f 99)) (Nat.ble f 103)) (Nat.ble f 111))
noncomputable def ft128 (f : Nat) : Fc := (bel (bel (bel (bel (bel (cFn Go.Proofs.Tryz.prog Go.Proofs.Tryz.f159) (cFn Go.Proofs.Tryz.prog Go.Proofs.Tryz.f158) (Nat.ble f 158)) (bel (cFn Go.Proofs.Tryz.prog Go.Proofs.Tryz.f157) (cFn Go.Proofs.Tryz.prog Go.Proofs.Tryz.f156) (Nat.ble f 156)) (Nat.ble f 157)) (bel (bel (cFn Go.Proofs.Tryz.prog Go.Proofs.Tryz.f155) (cFn Go.Proofs.Tryz.prog Go.Proofs.Tryz.f154) (Nat.ble f 154)) (bel (cFn Go.Proofs.Tryz.prog Go.Proofs.Tryz.f153) (cFn Go.Proofs.Tryz.prog Go.Proofs.Tryz.f152) (Nat.ble f 152)) (Nat.ble f 153)) (Nat.ble f 155)) (bel (bel (bel (cFn Go.Proofs.Tryz.prog Go.Proofs.Tryz.f151) (cFn Go.Proofs.Tryz.prog Go.Proofs.Tryz.f150) (Nat.ble f 150)) (bel (cFn Go.Proofs.Tryz.prog Go.Proofs.Tryz.f149) (cFn Go.Proofs.Tryz.prog Go.Proofs.Tryz.f148) (Nat.ble f 148)) (Nat.ble f 149)) (bel (bel (cFn Go.Proofs.Tryz.prog Go.Proofs.Tryz.f147) (cFn Go.Proofs.Tryz.prog Go.Proofs.Tryz.f146) (Nat.ble f 146)) (bel (cFn Go.Proofs.Tryz.prog Go.Proofs.Tryz.f145) (cFn Go.Proofs.Tryz.prog Go.Proofs.Tryz.f144) (Nat.ble f 144)) (Nat.ble f 145)) (Nat.ble f 147)) (Nat.ble f 151)) (bel (bel (bel (bel (cFn Go.Proofs.Tryz.prog Go.Proofs.Tryz.f143) (cFn Go.Proofs.Tryz.prog Go.Proofs.Tryz.f142) (Nat.ble f 142)) (bel (cFn Go.Proofs.Tryz.prog Go.Proofs.Tryz.f141) (cFn Go.Proofs.Tryz.prog Go.Proofs.Tryz.f140) (Nat.ble f 140)) (Nat.ble f 141)) (bel (bel (cFn Go.Proofs.Tryz.prog Go.Proofs.Tryz.f139) (cFn Go.Proofs.Tryz.prog Go.Proofs.Tryz.f138) (Nat.ble f 138)) (bel (cFn Go.Proofs.Tryz.prog Go.Proofs.Tryz.f137) (cFn Go.Proofs.Tryz.prog Go.Proofs.Tryz.f136) (Nat.ble f 136)) (Nat.ble f 137)) (Nat.ble f 139)) (bel (bel (bel (cFn Go.Proofs.Tryz.prog Go.Proofs.Tryz.f135) (cFn Go.Proofs.Tryz.prog Go.Proofs.Tryz.f134) (Nat.ble f 134)) (bel (cFn Go.Proofs.Tryz.prog Go.Proofs.Tryz.f133) (cFn Go.Proofs.Tryz.prog Go.Proofs.Tryz.f132) (Nat.ble f 132)) (Nat.ble f 133)) (bel (bel (cFn Go.Proofs.Tryz.prog Go.Proofs.Tryz.f131) (cFn Go.Proofs.Tryz.prog Go.Proofs.Tryz.f130) (Nat.ble f 130)) (bel (cFn Go.Proofs.Tryz.prog Go.Proofs.Tryz.f129) (cFn Go.Proofs.Tryz.prog Go.Proofs.Tryz.f128) (Nat.ble f 128)) (Nat.ble f 129)) (Nat.ble f 131)) (Nat.ble f 135)) (Nat.ble f 143))
noncomputable def ft160 (f : Nat) : Fc := (bel (bel (bel (bel (bel (cFn Go.Proofs.Tryz.prog Go.Proofs.Tryz.f191) (cFn Go.Proofs.Tryz.prog Go.Proofs.Tryz.f190) (Nat.ble f 190)) (bel (cFn Go.Proofs.Tryz.prog Go.Proofs.Tryz.f189) (cFn Go.Proofs.Tryz.prog Go.Proofs.Tryz.f188) (Nat.ble f 188)) (Nat.ble f 189)) (bel (bel (cFn Go.Proofs.Tryz.prog Go.Proofs.Tryz.f187) (cFn Go.Proofs.Tryz.prog Go.Proofs.Tryz.f186) (Nat.ble f 186)) (bel (cFn Go.Proofs.Tryz.prog Go.Proofs.Tryz.f185) (cFn Go.Proofs.Tryz.prog Go.Proofs.Tryz.f184) (Nat.ble f 184)) (Nat.ble f 185)) (Nat.ble f 187)) (bel (bel (bel (cFn Go.Proofs.Tryz.prog Go.Proofs.Tryz.f183) (cFn Go.Proofs.Tryz.prog Go.Proofs.Tryz.f182) (Nat.ble f 182)) (bel (cFn Go.Proofs.Tryz.prog Go.Proofs.Tryz.f181) (cFn Go.Proofs.Tryz.prog Go.Proofs.Tryz.f180) (Nat.ble f 180)) (Nat.ble f 181)) (bel (bel (cFn Go.Proofs.Tryz.prog Go.Proofs.Tryz.f179) (cFn Go.Proofs.Tryz.prog Go.Proofs.Tryz.f178) (Nat.ble f 178)) (bel (cFn Go.Proofs.Tryz.prog Go.Proofs.Tryz.f177) (cFn Go.Proofs.Tryz.prog Go.Proofs.Tryz.f176) (Nat.ble f 176)) (Nat.ble f 177)) (Nat.ble f 179)) (Nat.ble f 183)) (bel (bel (bel (bel (cFn Go.Proofs.Tryz.prog Go.Proofs.Tryz.f175) (cFn Go.Proofs.Tryz.prog Go.Proofs.Tryz.f174) (Nat.ble f 174)) (bel (cFn Go.Proofs.Tryz.prog Go.Proofs.Tryz.f173) (cFn Go.Proofs.Tryz.prog Go.Proofs.Tryz.f172) (Nat.ble f 172)) (Nat.ble f 173)) (bel (bel (cFn Go.Proofs.Tryz.prog Go.Proofs.Tryz.f171) (cFn Go.Proofs.Tryz.prog Go.Proofs.Tryz.f170) (Nat.ble f 170)) (bel (cFn Go.Proofs.Tryz.prog Go.Proofs.Tryz.f169) (cFn Go.Proofs.Tryz.prog Go.Proofs.Tryz.f168) (Nat.ble f 168)) (Nat.ble f 169)) (Nat.ble f 171)) (bel (bel (bel (cFn Go.Proofs.Tryz.prog Go.Proofs.Tryz.f167) (cFn Go.Proofs.Tryz.prog Go.Proofs.Tryz.f166) (Nat.ble f 166)) (bel (cFn Go.Proofs.Tryz.prog Go.Proofs.Tryz.f165) (cFn Go.Proofs.Tryz.prog Go.Proofs.Tryz.f164) (Nat.ble f 164)) (Nat.ble f 165)) (bel (bel (cFn Go.Proofs.Tryz.prog Go.Proofs.Tryz.f163) (cFn Go.Proofs.Tryz.prog Go.Proofs.Tryz.f162) (Nat.ble f 162)) (bel (cFn Go.Proofs.Tryz.prog Go.Proofs.Tryz.f161) (cFn Go.Proofs.Tryz.prog Go.Proofs.Tryz.f160) (Nat.ble f 160)) (Nat.ble f 161)) (Nat.ble f 163)) (Nat.ble f 167)) (Nat.ble f 175))
noncomputable def ft192 (f : Nat) : Fc := (bel (bel (bel (bel (bel (cFn Go.Proofs.Tryz.prog Go.Proofs.Tryz.f223) (cFn Go.Proofs.Tryz.prog Go.Proofs.Tryz.f222) (Nat.ble f 222)) (bel (cFn Go.Proofs.Tryz.prog Go.Proofs.Tryz.f221) (cFn Go.Proofs.Tryz.prog Go.Proofs.Tryz.f220) (Nat.ble f 220)) (Nat.ble f 221)) (bel (bel (cFn Go.Proofs.Tryz.prog Go.Proofs.Tryz.f219) (cFn Go.Proofs.Tryz.prog Go.Proofs.Tryz.f218) (Nat.ble f 218)) (bel (cFn Go.Proofs.Tryz.prog Go.Proofs.Tryz.f217) (cFn Go.Proofs.Tryz.prog Go.Proofs.Tryz.f216) (Nat.ble f 216)) (Nat.ble f 217)) (Nat.ble f 219)) (bel (bel (bel (cFn Go.Proofs.Tryz.prog Go.Proofs.Tryz.f215) (cFn Go.Proofs.Tryz.prog Go.Proofs.Tryz.f214) (Nat.ble f 214)) (bel (cFn Go.Proofs.Tryz.prog Go.Proofs.Tryz.f213) (cFn Go.Proofs.Tryz.prog Go.Proofs.Tryz.f212) (Nat.ble f 212)) (Nat.ble f 213)) (bel (bel (cFn Go.Proofs.Tryz.prog Go.Proofs.Tryz.f211) (cFn Go.Proofs.Tryz.prog Go.Proofs.Tryz.f210) (Nat.ble f 210)) (bel (cFn Go.Proofs.Tryz.prog Go.Proofs.Tryz.f209) (cFn Go.Proofs.Tryz.prog Go.Proofs.Tryz.f208) (Nat.ble f 208)) (Nat.ble f 209)) (Nat.ble f 211)) (Nat.ble f 215)) (bel (bel (bel (bel (cFn Go.Proofs.Tryz.prog Go.Proofs.Tryz.f207) (cFn Go.Proofs.Tryz.prog Go.Proofs.Tryz.f206) (Nat.ble f 206)) (bel (cFn Go.Proofs.Tryz.prog Go.Proofs.Tryz.f205) (cFn Go.Proofs.Tryz.prog Go.Proofs.Tryz.f204) (Nat.ble f 204)) (Nat.ble f 205)) (bel (bel (cFn Go.Proofs.Tryz.prog Go.Proofs.Tryz.f203) (cFn Go.Proofs.Tryz.prog Go.Proofs.Tryz.f202) (Nat.ble f 202)) (bel (cFn Go.Proofs.Tryz.prog Go.Proofs.Tryz.f201) (cFn Go.Proofs.Tryz.prog Go.Proofs.Tryz.f200) (Nat.ble f 200)) (Nat.ble f 201)) (Nat.ble f 203)) (bel (bel (bel (cFn Go.Proofs.Tryz.prog Go.Proofs.Tryz.f199) (cFn Go.Proofs.Tryz.prog Go.Proofs.Tryz.f198) (Nat.ble f 198)) (bel (cFn Go.Proofs.Tryz.prog Go.Proofs.Tryz.f197) (cFn Go.Proofs.Tryz.prog Go.Proofs.Tryz.f196) (Nat.ble f 196)) (Nat.ble f 197)) (bel (bel (cFn Go.Proofs.Tryz.prog Go.Proofs.Tryz.f195) (cFn Go.Proofs.Tryz.prog Go.Proofs.Tryz.f194) (Nat.ble f 194)) (bel (cFn Go.Proofs.Tryz.prog Go.Proofs.Tryz.f193) (cFn Go.Proofs.Tryz.prog Go.Proofs.Tryz.f192) (Nat.ble f 192)) (Nat.ble f 193)) (Nat.ble f 195)) (Nat.ble f 199)) (Nat.ble f 207))
noncomputable def ft224 (f : Nat) : Fc := (bel (bel (bel (bel (bel (cFn Go.Proofs.Tryz.prog Go.Proofs.Tryz.f255) (cFn Go.Proofs.Tryz.prog Go.Proofs.Tryz.f254) (Nat.ble f 254)) (bel (cFn Go.Proofs.Tryz.prog Go.Proofs.Tryz.f253) (cFn Go.Proofs.Tryz.prog Go.Proofs.Tryz.f252) (Nat.ble f 252)) (Nat.ble f 253)) (bel (bel (cFn Go.Proofs.Tryz.prog Go.Proofs.Tryz.f251) (cFn Go.Proofs.Tryz.prog Go.Proofs.Tryz.f250) (Nat.ble f 250)) (bel (cFn Go.Proofs.Tryz.prog Go.Proofs.Tryz.f249) (cFn Go.Proofs.Tryz.prog Go.Proofs.Tryz.f248) (Nat.ble f 248)) (Nat.ble f 249)) (Nat.ble f 251)) (bel (bel (bel (cFn Go.Proofs.Tryz.prog Go.Proofs.Tryz.f247) (cFn Go.Proofs.Tryz.prog Go.Proofs.Tryz.f246) (Nat.ble f 246)) (bel (cFn Go.Proofs.Tryz.prog Go.Proofs.Tryz.f245) (cFn Go.Proofs.Tryz.prog Go.Proofs.Tryz.f244) (Nat.ble f 244)) (Nat.ble f 245)) (bel (bel (cFn Go.Proofs.Tryz.prog Go.Proofs.Tryz.f243) (cFn Go.Proofs.Tryz.prog Go.Proofs.Tryz.f242) (Nat.ble f 242)) (bel (cFn Go.Proofs.Tryz.prog Go.Proofs.Tryz.f241) (cFn Go.Proofs.Tryz.prog Go.Proofs.Tryz.f240) (Nat.ble f 240)) (Nat.ble f 241)) (Nat.ble f 243)) (Nat.ble f 247)) (bel (bel (bel (bel (cFn Go.Proofs.Tryz.prog Go.Proofs.Tryz.f239) (cFn Go.Proofs.Tryz.prog Go.Proofs.Tryz.f238) (Nat.ble f 238)) (bel (cFn Go.Proofs.Tryz.prog Go.Proofs.Tryz.f237) (cFn Go.Proofs.Tryz.prog Go.Proofs.Tryz.f236) (Nat.ble f 236)) (Nat.ble f 237)) (bel (bel (cFn Go.Proofs.Tryz.prog Go.Proofs.Tryz.f235) (cFn Go.Proofs.Tryz.prog Go.Proofs.Tryz.f234) (Nat.ble f 234)) (bel (cFn Go.Proofs.Tryz.prog Go.Proofs.Tryz.f233) (cFn Go.Proofs.Tryz.prog Go.Proofs.Tryz.f232) (Nat.ble f 232)) (Nat.ble f 233)) (Nat.ble f 235)) (bel (bel (bel (cFn Go.Proofs.Tryz.prog Go.Proofs.Tryz.f231) (cFn Go.Proofs.Tryz.prog Go.Proofs.Tryz.f230) (Nat.ble f 230)) (bel (cFn Go.Proofs.Tryz.prog Go.Proofs.Tryz.f229) (cFn Go.Proofs.Tryz.prog Go.Proofs.Tryz.f228) (Nat.ble f 228)) (Nat.ble f 229)) (bel (bel (cFn Go.Proofs.Tryz.prog Go.Proofs.Tryz.f227) (cFn Go.Proofs.Tryz.prog Go.Proofs.Tryz.f226) (Nat.ble f 226)) (bel (cFn Go.Proofs.Tryz.prog Go.Proofs.Tryz.f225) (cFn Go.Proofs.Tryz.prog Go.Proofs.Tryz.f224) (Nat.ble f 224)) (Nat.ble f 225)) (Nat.ble f 227)) (Nat.ble f 231)) (Nat.ble f 239))
noncomputable def ft256 (f : Nat) : Fc := (bel (bel (bel (bel (bel (cFn Go.Proofs.Tryz.prog Go.Proofs.Tryz.f287) (cFn Go.Proofs.Tryz.prog Go.Proofs.Tryz.f286) (Nat.ble f 286)) (bel (cFn Go.Proofs.Tryz.prog Go.Proofs.Tryz.f285) (cFn Go.Proofs.Tryz.prog Go.Proofs.Tryz.f284) (Nat.ble f 284)) (Nat.ble f 285)) (bel (bel (cFn Go.Proofs.Tryz.prog Go.Proofs.Tryz.f283) (cFn Go.Proofs.Tryz.prog Go.Proofs.Tryz.f282) (Nat.ble f 282)) (bel (cFn Go.Proofs.Tryz.prog Go.Proofs.Tryz.f281) (cFn Go.Proofs.Tryz.prog Go.Proofs.Tryz.f280) (Nat.ble f 280)) (Nat.ble f 281)) (Nat.ble f 283)) (bel (bel (bel (cFn Go.Proofs.Tryz.prog Go.Proofs.Tryz.f279) (cFn Go.Proofs.Tryz.prog Go.Proofs.Tryz.f278) (Nat.ble f 278)) (bel (cFn Go.Proofs.Tryz.prog Go.Proofs.Tryz.f277) (cFn Go.Proofs.Tryz.prog Go.Proofs.Tryz.f276) (Nat.ble f 276)) (Nat.ble f 277)) (bel (bel (cFn Go.Proofs.Tryz.prog Go.Proofs.Tryz.f275) (cFn Go.Proofs.Tryz.prog Go.Proofs.Tryz.f274) (Nat.ble f 274)) (bel (cFn Go.Proofs.Tryz.prog Go.Proofs.Tryz.f273) (cFn Go.Proofs.Tryz.prog Go.Proofs.Tryz.f272) (Nat.ble f 272)) (Nat.ble f 273)) (Nat.ble f 275)) (Nat.ble f 279)) (bel (bel (bel (bel (cFn Go.Proofs.Tryz.prog Go.Proofs.Tryz.f271) (cFn Go.Proofs.Tryz.prog Go.Proofs.Tryz.f270) (Nat.ble f 270)) (bel (cFn Go.Proofs.Tryz.prog Go.Proofs.Tryz.f269) (cFn Go.Proofs.Tryz.prog Go.Proofs.Tryz.f268) (Nat.ble f 268)) (Nat.ble f 269)) (bel (bel (cFn Go.Proofs.Tryz.prog Go.Proofs.Tryz.f267) (cFn Go.Proofs.Tryz.prog Go.Proofs.Tryz.f266) (Nat.ble f 266)) (bel (cFn Go.Proofs.Tryz.prog Go.Proofs.Tryz.f265) (cFn Go.Proofs.Tryz.prog Go.Proofs.Tryz.f264) (Nat.ble f 264)) (Nat.ble f 265)) (Nat.ble f 267)) (bel (bel (bel (cFn Go.Proofs.Tryz.prog Go.Proofs.Tryz.f263) (cFn Go.Proofs.Tryz.prog Go.Proofs.Tryz.f262) (Nat.ble f 262)) (bel (cFn Go.Proofs.Tryz.prog Go.Proofs.Tryz.f261) (cFn Go.Proofs.Tryz.prog Go.Proofs.Tryz.f260) (Nat.ble f 260)) (Nat.ble f 261)) (bel (bel (cFn Go.Proofs.Tryz.prog Go.Proofs.Tryz.f259) (cFn Go.Proofs.Tryz.prog Go.Proofs.Tryz.f258) (Nat.ble f 258)) (bel (cFn Go.Proofs.Tryz.prog Go.Proofs.Tryz.f257) (cFn Go.Proofs.Tryz.prog Go.Proofs.Tryz.f256) (Nat.ble f 256)) (Nat.ble f 257)) (Nat.ble f 259)) (Nat.ble f 263)) (Nat.ble f 271))
noncomputable def ft288 (f : Nat) : Fc := (bel (bel (bel (bel (bel (cFn Go.Proofs.Tryz.prog Go.Proofs.Tryz.f319) (cFn Go.Proofs.Tryz.prog Go.Proofs.Tryz.f318) (Nat.ble f 318)) (bel (cFn Go.Proofs.Tryz.prog Go.Proofs.Tryz.f317) (cFn Go.Proofs.Tryz.prog Go.Proofs.Tryz.f316) (Nat.ble f 316)) (Nat.ble f 317)) (bel (bel (cFn Go.Proofs.Tryz.prog Go.Proofs.Tryz.f315) (cFn Go.Proofs.Tryz.prog Go.Proofs.Tryz.f314) (Nat.ble f 314)) (bel (cFn Go.Proofs.Tryz.prog Go.Proofs.Tryz.f313) (cFn Go.Proofs.Tryz.prog Go.Proofs.Tryz.f312) (Nat.ble f 312)) (Nat.ble f 313)) (Nat.ble f 315)) (bel (bel (bel (cFn Go.Proofs.Tryz.prog Go.Proofs.Tryz.f311) (cFn Go.Proofs.Tryz.prog Go.Proofs.Tryz.f310) (Nat.ble f 310)) (bel (cFn Go.Proofs.Tryz.prog Go.Proofs.Tryz.f309) (cFn Go.Proofs.Tryz.prog Go.Proofs.Tryz.f308) (Nat.ble f 308)) (Nat.ble f 309)) (bel (bel (cFn Go.Proofs.Tryz.prog Go.Proofs.Tryz.f307) (cFn Go.Proofs.Tryz.prog Go.Proofs.Tryz.f306) (Nat.ble f 306)) (bel (cFn Go.Proofs.Tryz.prog Go.Proofs.Tryz.f305) (cFn Go.Proofs.Tryz.prog Go.Proofs.Tryz.f304) (Nat.ble f 304)) (Nat.ble f 305)) (Nat.ble f 307)) (Nat.ble f 311)) (bel (bel (bel (bel (cFn Go.Proofs.Tryz.prog Go.Proofs.Tryz.f303) (cFn Go.Proofs.Tryz.prog Go.Proofs.Tryz.f302) (Nat.ble f 302)) (bel (cFn Go.Proofs.Tryz.prog Go.Proofs.Tryz.f301) (cFn Go.Proofs.Tryz.prog Go.Proofs.Tryz.f300) (Nat.ble f 300)) (Nat.ble f 301)) (bel (bel (cFn Go.Proofs.Tryz.prog Go.Proofs.Tryz.f299) (cFn Go.Proofs.Tryz.prog Go.Proofs.Tryz.f298) (Nat.ble f 298)) (bel (cFn Go.Proofs.Tryz.prog Go.Proofs.Tryz.f297) (cFn Go.Proofs.Tryz.prog Go.Proofs.Tryz.f296) (Nat.ble f 296)) (Nat.ble f 297)) (Nat.ble f 299)) (bel (bel (bel (cFn Go.Proofs.Tryz.prog Go.Proofs.Tryz.f295) (cFn Go.Proofs.Tryz.prog Go.Proofs.Tryz.f294) (Nat.ble f 294)) (bel (cFn Go.Proofs.Tryz.prog Go.Proofs.Tryz.f293) (cFn Go.Proofs.Tryz.prog Go.Proofs.Tryz.f292) (Nat.ble f 292)) (Nat.ble f 293)) (bel (bel (cFn Go.Proofs.Tryz.prog Go.Proofs.Tryz.f291) (cFn Go.Proofs.Tryz.prog Go.Proofs.Tryz.f290) (Nat.ble f 290)) (bel (cFn Go.Proofs.Tryz.prog Go.Proofs.Tryz.f289) (cFn Go.Proofs.Tryz.prog Go.Proofs.Tryz.f288) (Nat.ble f 288)) (Nat.ble f 289)) (Nat.ble f 291)) (Nat.ble f 295)) (Nat.ble f 303))
noncomputable def ft320 (f : Nat) : Fc := (bel (bel (bel (bel (bel (cFn Go.Proofs.Tryz.prog Go.Proofs.Tryz.f351) (cFn Go.Proofs.Tryz.prog Go.Proofs.Tryz.f350) (Nat.ble f 350)) (bel (cFn Go.Proofs.Tryz.prog Go.Proofs.Tryz.f349) (cFn Go.Proofs.Tryz.prog Go.Proofs.Tryz.f348) (Nat.ble f 348)) (Nat.ble f 349)) (bel (bel (cFn Go.Proofs.Tryz.prog Go.Proofs.Tryz.f347) (cFn Go.Proofs.Tryz.prog Go.Proofs.Tryz.f346) (Nat.ble f 346)) (bel (cFn Go.Proofs.Tryz.prog Go.Proofs.Tryz.f345) (cFn Go.Proofs.Tryz.prog Go.Proofs.Tryz.f344) (Nat.ble f 344)) (Nat.ble f 345)) (Nat.ble f 347)) (bel (bel (bel (cFn Go.Proofs.Tryz.prog Go.Proofs.Tryz.f343) (cFn Go.Proofs.Tryz.prog Go.Proofs.Tryz.f342) (Nat.ble f 342)) (bel (cFn Go.Proofs.Tryz.prog Go.Proofs.Tryz.f341) (cFn Go.Proofs.Tryz.prog Go.Proofs.Tryz.f340) (Nat.ble f 340)) (Nat.ble f 341)) (bel (bel (cFn Go.Proofs.Tryz.prog Go.Proofs.Tryz.f339) (cFn Go.Proofs.Tryz.prog Go.Proofs.Tryz.f338) (Nat.ble f 338)) (bel (cFn Go.Proofs.Tryz.prog Go.Proofs.Tryz.f337) (cFn Go.Proofs.Tryz.prog Go.Proofs.Tryz.f336) (Nat.ble f 336)) (Nat.ble f 337)) (Nat.ble f 339)) (Nat.ble f 343)) (bel (bel (bel (bel (cFn Go.Proofs.Tryz.prog Go.Proofs.Tryz.f335) (cFn Go.Proofs.Tryz.prog Go.Proofs.Tryz.f334) (Nat.ble f 334)) (bel (cFn Go.Proofs.Tryz.prog Go.Proofs.Tryz.f333) (cFn Go.Proofs.Tryz.prog Go.Proofs.Tryz.f332) (Nat.ble f 332)) (Nat.ble f 333)) (bel (bel (cFn Go.Proofs.Tryz.prog Go.Proofs.Tryz.f331) (cFn Go.Proofs.Tryz.prog Go.Proofs.Tryz.f330) (Nat.ble f 330)) (bel (cFn Go.Proofs.Tryz.prog Go.Proofs.Tryz.f329) (cFn Go.Proofs.Tryz.prog Go.Proofs.Tryz.f328) (Nat.ble f 328)) (Nat.ble f 329)) (Nat.ble f 331)) (bel (bel (bel (cFn Go.Proofs.Tryz.prog Go.Proofs.Tryz.f327) (cFn Go.Proofs.Tryz.prog Go.Proofs.Tryz.f326) (Nat.ble f 326)) (bel (cFn Go.Proofs.Tryz.prog Go.Proofs.Tryz.f325) (cFn Go.Proofs.Tryz.prog Go.Proofs.Tryz.f324) (Nat.ble f 324)) (Nat.ble f 325)) (bel (bel (cFn Go.Proofs.Tryz.prog Go.Proofs.Tryz.f323) (cFn Go.Proofs.Tryz.prog Go.Proofs.Tryz.f322) (Nat.ble f 322)) (bel (cFn Go.Proofs.Tryz.prog Go.Proofs.Tryz.f321) (cFn Go.Proofs.Tryz.prog Go.Proofs.Tryz.f320) (Nat.ble f 320)) (Nat.ble f 321)) (Nat.ble f 323)) (Nat.ble f 327)) (Nat.ble f 335))
noncomputable def ft352 (f : Nat) : Fc := (bel (bel (bel (bel (bel (cFn Go.Proofs.Tryz.prog Go.Proofs.Tryz.f383) (cFn Go.Proofs.Tryz.prog Go.Proofs.Tryz.f382) (Nat.ble f 382)) (bel (cFn Go.Proofs.Tryz.prog Go.Proofs.Tryz.f381) (cFn Go.Proofs.Tryz.prog Go.Proofs.Tryz.f380) (Nat.ble f 380)) (Nat.ble f 381)) (bel (bel (cFn Go.Proofs.Tryz.prog Go.Proofs.Tryz.f379) (cFn Go.Proofs.Tryz.prog Go.Proofs.Tryz.f378) (Nat.ble f 378)) (bel (cFn Go.Proofs.Tryz.prog Go.Proofs.Tryz.f377) (cFn Go.Proofs.Tryz.prog Go.Proofs.Tryz.f376) (Nat.ble f 376)) (Nat.ble f 377)) (Nat.ble f 379)) (bel (bel (bel (cFn Go.Proofs.Tryz.prog Go.Proofs.Tryz.f375) (cFn Go.Proofs.Tryz.prog Go.Proofs.Tryz.f374) (Nat.ble f 374)) (bel (cFn Go.Proofs.Tryz.prog Go.Proofs.Tryz.f373) (cFn Go.Proofs.Tryz.prog Go.Proofs.Tryz.f372) (Nat.ble f 372)) (Nat.ble f 373)) (bel (bel (cFn Go.Proofs.Tryz.prog Go.Proofs.Tryz.f371) (cFn Go.Proofs.Tryz.prog Go.Proofs.Tryz.f370) (Nat.ble f 370)) (bel (cFn Go.Proofs.Tryz.prog Go.Proofs.Tryz.f369) (cFn Go.Proofs.Tryz.prog Go.Proofs.Tryz.f368) (Nat.ble f 368)) (Nat.ble f 369)) (Nat.ble f 371)) (Nat.ble f 375)) (bel (bel (bel (bel (cFn Go.Proofs.Tryz.prog Go.Proofs.Tryz.f367) (cFn Go.Proofs.Tryz.prog Go.Proofs.Tryz.f366) (Nat.ble f 366)) (bel (cFn Go.Proofs.Tryz.prog Go.Proofs.Tryz.f365) (cFn Go.Proofs.Tryz.prog Go.Proofs.Tryz.f364) (Nat.ble f 364)) (Nat.ble f 365)) (bel (bel (cFn Go.Proofs.Tryz.prog Go.Proofs.Tryz.f363) (cFn Go.Proofs.Tryz.prog Go.Proofs.Tryz.f362) (Nat.ble f 362)) (bel (cFn Go.Proofs.Tryz.prog Go.Proofs.Tryz.f361) (cFn Go.Proofs.Tryz.prog Go.Proofs.Tryz.f360) (Nat.ble f 360)) (Nat.ble f 361)) (Nat.ble f 363)) (bel (bel (bel (cFn Go.Proofs.Tryz.prog Go.Proofs.Tryz.f359) (cFn Go.Proofs.Tryz.prog Go.Proofs.Tryz.f358) (Nat.ble f 358)) (bel (cFn Go.Proofs.Tryz.prog Go.Proofs.Tryz.f357) (cFn Go.Proofs.Tryz.prog Go.Proofs.Tryz.f356) (Nat.ble f 356)) (Nat.ble f 357)) (bel (bel (cFn Go.Proofs.Tryz.prog Go.Proofs.Tryz.f355) (cFn Go.Proofs.Tryz.prog Go.Proofs.Tryz.f354) (Nat.ble f 354)) (bel (cFn Go.Proofs.Tryz.prog Go.Proofs.Tryz.f353) (cFn Go.Proofs.Tryz.prog Go.Proofs.Tryz.f352) (Nat.ble f 352)) (Nat.ble f 353)) (Nat.ble f 355)) (Nat.ble f 359)) (Nat.ble f 367))
noncomputable def ft384 (f : Nat) : Fc := (bel (bel (bel (bel (bel (cFn Go.Proofs.Tryz.prog Go.Proofs.Tryz.f415) (cFn Go.Proofs.Tryz.prog Go.Proofs.Tryz.f414) (Nat.ble f 414)) (bel (cFn Go.Proofs.Tryz.prog Go.Proofs.Tryz.f413) (cFn Go.Proofs.Tryz.prog Go.Proofs.Tryz.f412) (Nat.ble f 412)) (Nat.ble f 413)) (bel (bel (cFn Go.Proofs.Tryz.prog Go.Proofs.Tryz.f411) (cFn Go.Proofs.Tryz.prog Go.Proofs.Tryz.f410) (Nat.ble f 410)) (bel (cFn Go.Proofs.Tryz.prog Go.Proofs.Tryz.f409) (cFn Go.Proofs.Tryz.prog Go.Proofs.Tryz.f408) (Nat.ble f 408)) (Nat.ble f 409)) (Nat.ble f 411)) (bel (bel (bel (cFn Go.Proofs.Tryz.prog Go.Proofs.Tryz.f407) (cFn Go.Proofs.Tryz.prog Go.Proofs.Tryz.f406) (Nat.ble f 406)) (bel (cFn Go.Proofs.Tryz.prog Go.Proofs.Tryz.f405) (cFn Go.Proofs.Tryz.prog Go.Proofs.Tryz.f404) (Nat.ble f 404)) (Nat.ble f 405)) (bel (bel (cFn Go.Proofs.Tryz.prog Go.Proofs.Tryz.f403) (cFn Go.Proofs.Tryz.prog Go.Proofs.Tryz.f402) (Nat.ble f 402)) (bel (cFn Go.Proofs.Tryz.prog Go.Proofs.Tryz.f401) (cFn Go.Proofs.Tryz.prog Go.Proofs.Tryz.f400) (Nat.ble f 400)) (Nat.ble f 401)) (Nat.ble f 403)) (Nat.ble f 407)) (bel (bel (bel (bel (cFn Go.Proofs.Tryz.prog Go.Proofs.Tryz.f399) (cFn Go.Proofs.Tryz.prog Go.Proofs.Tryz.f398) (Nat.ble f 398)) (bel (cFn Go.Proofs.Tryz.prog Go.Proofs.Tryz.f397) (cFn Go.Proofs.Tryz.prog Go.Proofs.Tryz.f396) (Nat.ble f 396)) (Nat.ble f 397)) (bel (bel (cFn Go.Proofs.Tryz.prog Go.Proofs.Tryz.f395) (cFn Go.Proofs.Tryz.prog Go.Proofs.Tryz.f394) (Nat.ble f 394)) (bel (cFn Go.Proofs.Tryz.prog Go.Proofs.Tryz.f393) (cFn Go.Proofs.Tryz.prog Go.Proofs.Tryz.f392) (Nat.ble f 392)) (Nat.ble f 393)) (Nat.ble f 395)) (bel (bel (bel (cFn Go.Proofs.Tryz.prog Go.Proofs.Tryz.f391) (cFn Go.Proofs.Tryz.prog Go.Proofs.Tryz.f390) (Nat.ble f 390)) (bel (cFn Go.Proofs.Tryz.prog Go.Proofs.Tryz.f389) (cFn Go.Proofs.Tryz.prog Go.Proofs.Tryz.f388) (Nat.ble f 388)) (Nat.ble f 389)) (bel (bel (cFn Go.Proofs.Tryz.prog Go.Proofs.Tryz.f387) (cFn Go.Proofs.Tryz.prog Go.Proofs.Tryz.f386) (Nat.ble f 386)) (bel (cFn Go.Proofs.Tryz.prog Go.Proofs.Tryz.f385) (cFn Go.Proofs.Tryz.prog Go.Proofs.Tryz.f384) (Nat.ble f 384)) (Nat.ble f 385)) (Nat.ble f 387)) (Nat.ble f 391)) (Nat.ble f 399))
noncomputable def ft416 (f : Nat) : Fc := (bel (bel (bel (bel (bel (cFn Go.Proofs.Tryz.prog Go.Proofs.Tryz.f447) (cFn Go.Proofs.Tryz.prog Go.Proofs.Tryz.f446) (Nat.ble f 446)) (bel (cFn Go.Proofs.Tryz.prog Go.Proofs.Tryz.f445) (cFn Go.Proofs.Tryz.prog Go.Proofs.Tryz.f444) (Nat.ble f 444)) (Nat.ble f 445)) (bel (bel (cFn Go.Proofs.Tryz.prog Go.Proofs.Tryz.f443) (cFn Go.Proofs.Tryz.prog Go.Proofs.Tryz.f442) (Nat.ble f 442)) (bel (cFn Go.Proofs.Tryz.prog Go.Proofs.Tryz.f441) (cFn Go.Proofs.Tryz.prog Go.Proofs.Tryz.f440) (Nat.ble f 440)) (Nat.ble f 441)) (Nat.ble f 443)) (bel (bel (bel (cFn Go.Proofs.Tryz.prog Go.Proofs.Tryz.f439) (cFn Go.Proofs.Tryz.prog Go.Proofs.Tryz.f438) (Nat.ble f 438)) (bel (cFn Go.Proofs.Tryz.prog Go.Proofs.Tryz.f437) (cFn Go.Proofs.Tryz.prog Go.Proofs.Tryz.f436) (Nat.ble f 436)) (Nat.ble f 437)) (bel (bel (cFn Go.Proofs.Tryz.prog Go.Proofs.Tryz.f435) (cFn Go.Proofs.Tryz.prog Go.Proofs.Tryz.f434) (Nat.ble f 434)) (bel (cFn Go.Proofs.Tryz.prog Go.Proofs.Tryz.f433) (cFn Go.Proofs.Tryz.prog Go.Proofs.Tryz.f432) (Nat.ble f 432)) (Nat.ble f 433)) (Nat.ble f 435)) (Nat.ble f 439)) (bel (bel (bel (bel (cFn Go.Proofs.Tryz.prog Go.Proofs.Tryz.f431) (cFn Go.Proofs.Tryz.prog Go.Proofs.Tryz.f430) (Nat.ble f 430)) (bel (cFn Go.Proofs.Tryz.prog Go.Proofs.Tryz.f429) (cFn Go.Proofs.Tryz.prog Go.Proofs.Tryz.f428) (Nat.ble f 428)) (Nat.ble f 429)) (bel (bel (cFn Go.Proofs.Tryz.prog Go.Proofs.Tryz.f427) (cFn Go.Proofs.Tryz.prog Go.Proofs.Tryz.f426) (Nat.ble f 426)) (bel (cFn Go.Proofs.Tryz.prog Go.Proofs.Tryz.f425) (cFn Go.Proofs.Tryz.prog Go.Proofs.Tryz.f424) (Nat.ble f 424)) (Nat.ble f 425)) (Nat.ble f 427)) (bel (bel (bel (cFn Go.Proofs.Tryz.prog Go.Proofs.Tryz.f423) (cFn Go.Proofs.Tryz.prog Go.Proofs.Tryz.f422) (Nat.ble f 422)) (bel (cFn Go.Proofs.Tryz.prog Go.Proofs.Tryz.f421) (cFn Go.Proofs.Tryz.prog Go.Proofs.Tryz.f420) (Nat.ble f 420)) (Nat.ble f 421)) (bel (bel (cFn Go.Proofs.Tryz.prog Go.Proofs.Tryz.f419) (cFn Go.Proofs.Tryz.prog Go.Proofs.Tryz.f418) (Nat.ble f 418)) (bel (cFn Go.Proofs.Tryz.prog Go.Proofs.Tryz.f417) (cFn Go.Proofs.Tryz.prog Go.Proofs.Tryz.f416) (Nat.ble f 416)) (Nat.ble f 417)) (Nat.ble f 419)) (Nat.ble f 423)) (Nat.ble f 431))
noncomputable def ft448 (f : Nat) : Fc := (bel (bel (bel (bel (bel (cFn Go.Proofs.Tryz.prog Go.Proofs.Tryz.f479) (cFn Go.Proofs.Tryz.prog Go.Proofs.Tryz.f478) (Nat.ble f 478)) (bel (cFn Go.Proofs.Tryz.prog Go.Proofs.Tryz.f477) (cFn Go.Proofs.Tryz.prog Go.Proofs.Tryz.f476) (Nat.ble f 476)) (Nat.ble f 477)) (bel (bel (cFn Go.Proofs.Tryz.prog Go.Proofs.Tryz.f475) (cFn Go.Proofs.Tryz.prog Go.Proofs.Tryz.f474) (Nat.ble f 474)) (bel (cFn Go.Proofs.Tryz.prog Go.Proofs.Tryz.f473) (cFn Go.Proofs.Tryz.prog Go.Proofs.Tryz.f472) (Nat.ble f 472)) (Nat.ble f 473)) (Nat.ble f 475)) (bel (bel (bel (cFn Go.Proofs.Tryz.prog Go.Proofs.Tryz.f471) (cFn Go.Proofs.Tryz.prog Go.Proofs.Tryz.f470) (Nat.ble f 470)) (bel (cFn Go.Proofs.Tryz.prog Go.Proofs.Tryz.f469) (cFn Go.Proofs.Tryz.prog Go.Proofs.Tryz.f468) (Nat.ble f 468)) (Nat.ble f 469)) (bel (bel (cFn Go.Proofs.Tryz.prog Go.Proofs.Tryz.f467) (cFn Go.Proofs.Tryz.prog Go.Proofs.Tryz.f466) (Nat.ble f 466)) (bel (cFn Go.Proofs.Tryz.prog Go.Proofs.Tryz.f465) (cFn Go.Proofs.Tryz.prog Go.Proofs.Tryz.f464) (Nat.ble f 464)) (Nat.ble f 465)) (Nat.ble f 467)) (Nat.ble f 471)) (bel (bel (bel (bel (cFn Go.Proofs.Tryz.prog Go.Proofs.Tryz.f463) (cFn Go.Proofs.Tryz.prog Go.Proofs.Tryz.f462) (Nat.ble f 462)) (bel (cFn Go.Proofs.Tryz.prog Go.Proofs.Tryz.f461) (cFn Go.Proofs.Tryz.prog Go.Proofs.Tryz.f460) (Nat.ble f 460)) (Nat.ble f 461)) (bel (bel (cFn Go.Proofs.Tryz.prog Go.Proofs.Tryz.f459) (cFn Go.Proofs.Tryz.prog Go.Proofs.Tryz.f458) (Nat.ble f 458)) (bel (cFn Go.Proofs.Tryz.prog Go.Proofs.Tryz.f457) (cFn Go.Proofs.Tryz.prog Go.Proofs.Tryz.f456) (Nat.ble f 456)) (Nat.ble f 457)) (Nat.ble f 459)) (bel (bel (bel (cFn Go.Proofs.Tryz.prog Go.Proofs.Tryz.f455) (cFn Go.Proofs.Tryz.prog Go.Proofs.Tryz.f454) (Nat.ble f 454)) (bel (cFn Go.Proofs.Tryz.prog Go.Proofs.Tryz.f453) (cFn Go.Proofs.Tryz.prog Go.Proofs.Tryz.f452) (Nat.ble f 452)) (Nat.ble f 453)) (bel (bel (cFn Go.Proofs.Tryz.prog Go.Proofs.Tryz.f451) (cFn Go.Proofs.Tryz.prog Go.Proofs.Tryz.f450) (Nat.ble f 450)) (bel (cFn Go.Proofs.Tryz.prog Go.Proofs.Tryz.f449) (cFn Go.Proofs.Tryz.prog Go.Proofs.Tryz.f448) (Nat.ble f 448)) (Nat.ble f 449)) (Nat.ble f 451)) (Nat.ble f 455)) (Nat.ble f 463))
noncomputable def ft480 (f : Nat) : Fc := (bel (bel (bel (bel (bel (cFn Go.Proofs.Tryz.prog Go.Proofs.Tryz.f511) (cFn Go.Proofs.Tryz.prog Go.Proofs.Tryz.f510) (Nat.ble f 510)) (bel (cFn Go.Proofs.Tryz.prog Go.Proofs.Tryz.f509) (cFn Go.Proofs.Tryz.prog Go.Proofs.Tryz.f508) (Nat.ble f 508)) (Nat.ble f 509)) (bel (bel (cFn Go.Proofs.Tryz.prog Go.Proofs.Tryz.f507) (cFn Go.Proofs.Tryz.prog Go.Proofs.Tryz.f506) (Nat.ble f 506)) (bel (cFn Go.Proofs.Tryz.prog Go.Proofs.Tryz.f505) (cFn Go.Proofs.Tryz.prog Go.Proofs.Tryz.f504) (Nat.ble f 504)) (Nat.ble f 505)) (Nat.ble f 507)) (bel (bel (bel (cFn Go.Proofs.Tryz.prog Go.Proofs.Tryz.f503) (cFn Go.Proofs.Tryz.prog Go.Proofs.Tryz.f502) (Nat.ble f 502)) (bel (cFn Go.Proofs.Tryz.prog Go.Proofs.Tryz.f501) (cFn Go.Proofs.Tryz.prog Go.Proofs.Tryz.f500) (Nat.ble f 500)) (Nat.ble f 501)) (bel (bel (cFn Go.Proofs.Tryz.prog Go.Proofs.Tryz.f499) (cFn Go.Proofs.Tryz.prog Go.Proofs.Tryz.f498) (Nat.ble f 498)) (bel (cFn Go.Proofs.Tryz.prog Go.Proofs.Tryz.f497) (cFn Go.Proofs.Tryz.prog Go.Proofs.Tryz.f496) (Nat.ble f 496)) (Nat.ble f 497)) (Nat.ble f 499)) (Nat.ble f 503)) (bel (bel (bel (bel (cFn Go.Proofs.Tryz.prog Go.Proofs.Tryz.f495) (cFn Go.Proofs.Tryz.prog Go.Proofs.Tryz.f494) (Nat.ble f 494)) (bel (cFn Go.Proofs.Tryz.prog Go.Proofs.Tryz.f493) (cFn Go.Proofs.Tryz.prog Go.Proofs.Tryz.f492) (Nat.ble f 492)) (Nat.ble f 493)) (bel (bel (cFn Go.Proofs.Tryz.prog Go.Proofs.Tryz.f491) (cFn Go.Proofs.Tryz.prog Go.Proofs.Tryz.f490) (Nat.ble f 490)) (bel (cFn Go.Proofs.Tryz.prog Go.Proofs.Tryz.f489) (cFn Go.Proofs.Tryz.prog Go.Proofs.Tryz.f488) (Nat.ble f 488)) (Nat.ble f 489)) (Nat.ble f 491)) (bel (bel (bel (cFn Go.Proofs.Tryz.prog Go.Proofs.Tryz.f487) (cFn Go.Proofs.Tryz.prog Go.Proofs.Tryz.f486) (Nat.ble f 486)) (bel (cFn Go.Proofs.Tryz.prog Go.Proofs.Tryz.f485) (cFn Go.Proofs.Tryz.prog Go.Proofs.Tryz.f484) (Nat.ble f 484)) (Nat.ble f 485)) (bel (bel (cFn Go.Proofs.Tryz.prog Go.Proofs.Tryz.f483) (cFn Go.Proofs.Tryz.prog Go.Proofs.Tryz.f482) (Nat.ble f 482)) (bel (cFn Go.Proofs.Tryz.prog Go.Proofs.Tryz.f481) (cFn Go.Proofs.Tryz.prog Go.Proofs.Tryz.f480) (Nat.ble f 480)) (Nat.ble f 481)) (Nat.ble f 483)) (Nat.ble f 487)) (Nat.ble f 495))
noncomputable def ft512 (f : Nat) : Fc := (bel (bel (bel (bel (bel (cFn Go.Proofs.Tryz.prog Go.Proofs.Tryz.f543) (cFn Go.Proofs.Tryz.prog Go.Proofs.Tryz.f542) (Nat.ble f 542)) (bel (cFn Go.Proofs.Tryz.prog Go.Proofs.Tryz.f541) (cFn Go.Proofs.Tryz.prog Go.Proofs.Tryz.f540) (Nat.ble f 540)) (Nat.ble f 541)) (bel (bel (cFn Go.Proofs.Tryz.prog Go.Proofs.Tryz.f539) (cFn Go.Proofs.Tryz.prog Go.Proofs.Tryz.f538) (Nat.ble f 538)) (bel (cFn Go.Proofs.Tryz.prog Go.Proofs.Tryz.f537) (cFn Go.Proofs.Tryz.prog Go.Proofs.Tryz.f536) (Nat.ble f 536)) (Nat.ble f 537)) (Nat.ble f 539)) (bel (bel (bel (cFn Go.Proofs.Tryz.prog Go.Proofs.Tryz.f535) (cFn Go.Proofs.Tryz.prog Go.Proofs.Tryz.f534) (Nat.ble f 534)) (bel (cFn Go.Proofs.Tryz.prog Go.Proofs.Tryz.f533) (cFn Go.Proofs.Tryz.prog Go.Proofs.Tryz.f532) (Nat.ble f 532)) (Nat.ble f 533)) (bel (bel (cFn Go.Proofs.Tryz.prog Go.Proofs.Tryz.f531) (cFn Go.Proofs.Tryz.prog Go.Proofs.Tryz.f530) (Nat.ble f 530)) (bel (cFn Go.Proofs.Tryz.prog Go.Proofs.Tryz.f529) (cFn Go.Proofs.Tryz.prog Go.Proofs.Tryz.f528) (Nat.ble f 528)) (Nat.ble f 529)) (Nat.ble f 531)) (Nat.ble f 535)) (bel (bel (bel (bel (cFn Go.Proofs.Tryz.prog Go.Proofs.Tryz.f527) (cFn Go.Proofs.Tryz.prog Go.Proofs.Tryz.f526) (Nat.ble f 526)) (bel (cFn Go.Proofs.Tryz.prog Go.Proofs.Tryz.f525) (cFn Go.Proofs.Tryz.prog Go.Proofs.Tryz.f524) (Nat.ble f 524)) (Nat.ble f 525)) (bel (bel (cFn Go.Proofs.Tryz.prog Go.Proofs.Tryz.f523) (cFn Go.Proofs.Tryz.prog Go.Proofs.Tryz.f522) (Nat.ble f 522)) (bel (cFn Go.Proofs.Tryz.prog Go.Proofs.Tryz.f521) (cFn Go.Proofs.Tryz.prog Go.Proofs.Tryz.f520) (Nat.ble f 520)) (Nat.ble f 521)) (Nat.ble f 523)) (bel (bel (bel (cFn Go.Proofs.Tryz.prog Go.Proofs.Tryz.f519) (cFn Go.Proofs.Tryz.prog Go.Proofs.Tryz.f518) (Nat.ble f 518)) (bel (cFn Go.Proofs.Tryz.prog Go.Proofs.Tryz.f517) (cFn Go.Proofs.Tryz.prog Go.Proofs.Tryz.f516) (Nat.ble f 516)) (Nat.ble f 517)) (bel (bel (cFn Go.Proofs.Tryz.prog Go.Proofs.Tryz.f515) (cFn Go.Proofs.Tryz.prog Go.Proofs.Tryz.f514) (Nat.ble f 514)) (bel (cFn Go.Proofs.Tryz.prog Go.Proofs.Tryz.f513) (cFn Go.Proofs.Tryz.prog Go.Proofs.Tryz.f512) (Nat.ble f 512)) (Nat.ble f 513)) (Nat.ble f 515)) (Nat.ble f 519)) (Nat.ble f 527))
noncomputable def ft544 (f : Nat) : Fc := (bel (bel (bel (bel (bel (cFn Go.Proofs.Tryz.prog Go.Proofs.Tryz.f570) (cFn Go.Proofs.Tryz.prog Go.Proofs.Tryz.f569) (Nat.ble f 569)) (bel (cFn Go.Proofs.Tryz.prog Go.Proofs.Tryz.f568) (cFn Go.Proofs.Tryz.prog Go.Proofs.Tryz.f567) (Nat.ble f 567)) (Nat.ble f 568)) (bel (bel (cFn Go.Proofs.Tryz.prog Go.Proofs.Tryz.f566) (cFn Go.Proofs.Tryz.prog Go.Proofs.Tryz.f565) (Nat.ble f 565)) (cFn Go.Proofs.Tryz.prog Go.Proofs.Tryz.f564) (Nat.ble f 564)) (Nat.ble f 566)) (bel (bel (bel (cFn Go.Proofs.Tryz.prog Go.Proofs.Tryz.f563) (cFn Go.Proofs.Tryz.prog Go.Proofs.Tryz.f562) (Nat.ble f 562)) (bel (cFn Go.Proofs.Tryz.prog Go.Proofs.Tryz.f561) (cFn Go.Proofs.Tryz.prog Go.Proofs.Tryz.f560) (Nat.ble f 560)) (Nat.ble f 561)) (bel (bel (cFn Go.Proofs.Tryz.prog Go.Proofs.Tryz.f559) (cFn Go.Proofs.Tryz.prog Go.Proofs.Tryz.f558) (Nat.ble f 558)) (cFn Go.Proofs.Tryz.prog Go.Proofs.Tryz.f557) (Nat.ble f 557)) (Nat.ble f 559)) (Nat.ble f 563)) (bel (bel (bel (bel (cFn Go.Proofs.Tryz.prog Go.Proofs.Tryz.f556) (cFn Go.Proofs.Tryz.prog Go.Proofs.Tryz.f555) (Nat.ble f 555)) (bel (cFn Go.Proofs.Tryz.prog Go.Proofs.Tryz.f554) (cFn Go.Proofs.Tryz.prog Go.Proofs.Tryz.f553) (Nat.ble f 553)) (Nat.ble f 554)) (bel (bel (cFn Go.Proofs.Tryz.prog Go.Proofs.Tryz.f552) (cFn Go.Proofs.Tryz.prog Go.Proofs.Tryz.f551) (Nat.ble f 551)) (cFn Go.Proofs.Tryz.prog Go.Proofs.Tryz.f550) (Nat.ble f 550)) (Nat.ble f 552)) (bel (bel (bel (cFn Go.Proofs.Tryz.prog Go.Proofs.Tryz.f549) (cFn Go.Proofs.Tryz.prog Go.Proofs.Tryz.f548) (Nat.ble f 548)) (cFn Go.Proofs.Tryz.prog Go.Proofs.Tryz.f547) (Nat.ble f 547)) (bel (bel (cFn Go.Proofs.Tryz.prog Go.Proofs.Tryz.f546) (cFn Go.Proofs.Tryz.prog Go.Proofs.Tryz.f545) (Nat.ble f 545)) (cFn Go.Proofs.Tryz.prog Go.Proofs.Tryz.f544) (Nat.ble f 544)) (Nat.ble f 546)) (Nat.ble f 549)) (Nat.ble f 556))
noncomputable def ft (f : Nat) : Fc := bel .bad (bel (bel (bel (bel (bel (ft544 f) (ft512 f) (Nat.ble f 543)) (ft480 f) (Nat.ble f 511)) (bel (ft448 f) (ft416 f) (Nat.ble f 447)) (Nat.ble f 479)) (bel (bel (ft384 f) (ft352 f) (Nat.ble f 383)) (bel (ft320 f) (ft288 f) (Nat.ble f 319)) (Nat.ble f 351)) (Nat.ble f 415)) (bel (bel (bel (bel (ft256 f) (ft224 f) (Nat.ble f 255)) (ft192 f) (Nat.ble f 223)) (bel (ft160 f) (ft128 f) (Nat.ble f 159)) (Nat.ble f 191)) (bel (bel (ft96 f) (ft64 f) (Nat.ble f 95)) (bel (ft32 f) (ft0 f) (Nat.ble f 31)) (Nat.ble f 63)) (Nat.ble f 127)) (Nat.ble f 287)) (Nat.ble f 570)
theorem ft_ok0 (f : Nat) (h1 : 0 ≤ f) (h2 : f < 32) : ft f = .bad ∨ ∃ fn, Go.Proofs.Tryz.prog.funcs[f]? = some fn ∧ ft f = cFn Go.Proofs.Tryz.prog fn := by
  have h : f = 0 ∨ f = 1 ∨ f = 2 ∨ f = 3 ∨ f = 4 ∨ f = 5 ∨ f = 6 ∨ f = 7 ∨ f = 8 ∨ f = 9 ∨ f = 10 ∨ f = 11 ∨ f = 12 ∨ f = 13 ∨ f = 14 ∨ f = 15 ∨ f = 16 ∨ f = 17 ∨ f = 18 ∨ f = 19 ∨ f = 20 ∨ f = 21 ∨ f = 22 ∨ f = 23 ∨ f = 24 ∨ f = 25 ∨ f = 26 ∨ f = 27 ∨ f = 28 ∨ f = 29 ∨ f = 30 ∨ f = 31 := by omega
  rcases h with rfl | rfl | rfl | rfl | rfl | rfl | rfl | rfl | rfl | rfl | rfl | rfl | rfl | rfl | rfl | rfl | rfl | rfl | rfl | rfl | rfl | rfl | rfl | rfl | rfl | rfl | rfl | rfl | rfl | rfl | rfl | rfl
  · exact .inr ⟨_, Go.Proofs.Tryz.func0, rfl⟩
  · exact .inr ⟨_, Go.Proofs.Tryz.func1, rfl⟩
  · exact .inr ⟨_, Go.Proofs.Tryz.func2, rfl⟩
  · exact .inr ⟨_, Go.Proofs.Tryz.func3, rfl⟩
  · exact .inr ⟨_, Go.Proofs.Tryz.func4, rfl⟩
  · exact .inr ⟨_, Go.Proofs.Tryz.func5, rfl⟩
  · exact .inr ⟨_, Go.Proofs.Tryz.func6, rfl⟩
  · exact .inr ⟨_, Go.Proofs.Tryz.func7, rfl⟩
  · exact .inr ⟨_, Go.Proofs.Tryz.func8, rfl⟩
  · exact .inr ⟨_, Go.Proofs.Tryz.func9, rfl⟩
  · exact .inr ⟨_, Go.Proofs.Tryz.func10, rfl⟩
  · exact .inr ⟨_, Go.Proofs.Tryz.func11, rfl⟩
  · exact .inr ⟨_, Go.Proofs.Tryz.func12, rfl⟩
  · exact .inr ⟨_, Go.Proofs.Tryz.func13, rfl⟩
  · exact .inr ⟨_, Go.Proofs.Tryz.func14, rfl⟩
  · exact .inr ⟨_, Go.Proofs.Tryz.func15, rfl⟩
  · exact .inr ⟨_, Go.Proofs.Tryz.func16, rfl⟩
  · exact .inr ⟨_, Go.Proofs.Tryz.func17, rfl⟩
  · exact .inr ⟨_, Go.Proofs.Tryz.func18, rfl⟩
  · exact .inr ⟨_, Go.Proofs.Tryz.func19, rfl⟩
  · exact .inr ⟨_, Go.Proofs.Tryz.func20, rfl⟩
  · exact .inr ⟨_, Go.Proofs.Tryz.func21, rfl⟩
  · exact .inr ⟨_, Go.Proofs.Tryz.func22, rfl⟩
  · exact .inr ⟨_, Go.Proofs.Tryz.func23, rfl⟩
  · exact .inr ⟨_, Go.Proofs.Tryz.func24, rfl⟩
  · exact .inr ⟨_, Go.Proofs.Tryz.func25, rfl⟩
  · exact .inr ⟨_, Go.Proofs.Tryz.func26, rfl⟩
  · exact .inr ⟨_, Go.Proofs.Tryz.func27, rfl⟩
  · exact .inr ⟨_, Go.Proofs.Tryz.func28, rfl⟩
  · exact .inr ⟨_, Go.Proofs.Tryz.func29, rfl⟩
  · exact .inr ⟨_, Go.Proofs.Tryz.func30, rfl⟩
  · exact .inr ⟨_, Go.Proofs.Tryz.func31, rfl⟩
theorem ft_ok32 (f : Nat) (h1 : 32 ≤ f) (h2 : f < 64) : ft f = .bad ∨ ∃ fn, Go.Proofs.Tryz.prog.funcs[f]? = some fn ∧ ft f = cFn Go.Proofs.Tryz.prog fn := by
  have h : f = 32 ∨ f = 33 ∨ f = 34 ∨ f = 35 ∨ f = 36 ∨ f = 37 ∨ f = 38 ∨ f = 39 ∨ f = 40 ∨ f = 41 ∨ f = 42 ∨ f = 43 ∨ f = 44 ∨ f = 45 ∨ f = 46 ∨ f = 47 ∨ f = 48 ∨ f = 49 ∨ f = 50 ∨ f = 51 ∨ f = 52 ∨ f = 53 ∨ f = 54 ∨ f = 55 ∨ f = 56 ∨ f = 57 ∨ f = 58 ∨ f = 59 ∨ f = 60 ∨ f = 61 ∨ f = 62 ∨ f = 63 := by omega
  rcases h with rfl | rfl | rfl | rfl | rfl | rfl | rfl | rfl | rfl | rfl | rfl | rfl | rfl | rfl | rfl | rfl | rfl | rfl | rfl | rfl | rfl | rfl | rfl | rfl | rfl | rfl | rfl | rfl | rfl | rfl | rfl | rfl
  · exact .inr ⟨_, Go.Proofs.Tryz.func32, rfl⟩
  · exact .inr ⟨_, Go.Proofs.Tryz.func33, rfl⟩
  · exact .inr ⟨_, Go.Proofs.Tryz.func34, rfl⟩
  · exact .inr ⟨_, Go.Proofs.Tryz.func35, rfl⟩
  · exact .inr ⟨_, Go.Proofs.Tryz.func36, rfl⟩
  · exact .inr ⟨_, Go.Proofs.Tryz.func37, rfl⟩
  · exact .inr ⟨_, Go.Proofs.Tryz.func38, rfl⟩
  · exact .inr ⟨_, Go.Proofs.Tryz.func39, rfl⟩
  · exact .inr ⟨_, Go.Proofs.Tryz.func40, rfl⟩
  · exact .inr ⟨_, Go.Proofs.Tryz.func41, rfl⟩
  · exact .inr ⟨_, Go.Proofs.Tryz.func42, rfl⟩
  · exact .inr ⟨_, Go.Proofs.Tryz.func43, rfl⟩
  · exact .inr ⟨_, Go.Proofs.Tryz.func44, rfl⟩
  · exact .inr ⟨_, Go.Proofs.Tryz.func45, rfl⟩
  · exact .inr ⟨_, Go.Proofs.Tryz.func46, rfl⟩
  · exact .inr ⟨_, Go.Proofs.Tryz.func47, rfl⟩
  · exact .inr ⟨_, Go.Proofs.Tryz.func48, rfl⟩
  · exact .inr ⟨_, Go.Proofs.Tryz.func49, rfl⟩
  · exact .inr ⟨_, Go.Proofs.Tryz.func50, rfl⟩
  · exact .inr ⟨_, Go.Proofs.Tryz.func51, rfl⟩
  · exact .inr ⟨_, Go.Proofs.Tryz.func52, rfl⟩
  · exact .inr ⟨_, Go.Proofs.Tryz.func53, rfl⟩
  · exact .inr ⟨_, Go.Proofs.Tryz.func54, rfl⟩
  · exact .inr ⟨_, Go.Proofs.Tryz.func55, rfl⟩
  · exact .inr ⟨_, Go.Proofs.Tryz.func56, rfl⟩
  · exact .inr ⟨_, Go.Proofs.Tryz.func57, rfl⟩
  · exact .inr ⟨_, Go.Proofs.Tryz.func58, rfl⟩
  · exact .inr ⟨_, Go.Proofs.Tryz.func59, rfl⟩
  · exact .inr ⟨_, Go.Proofs.Tryz.func60, rfl⟩
  · exact .inr ⟨_, Go.Proofs.Tryz.func61, rfl⟩
  · exact .inr ⟨_, Go.Proofs.Tryz.func62, rfl⟩
  · exact .inr ⟨_, Go.Proofs.Tryz.func63, rfl⟩
theorem ft_ok64 (f : Nat) (h1 : 64 ≤ f) (h2 : f < 96) : ft f = .bad ∨ ∃ fn, Go.Proofs.Tryz.prog.funcs[f]? = some fn ∧ ft f = cFn Go.Proofs.Tryz.prog fn := by
  have h : f = 64 ∨ f = 65 ∨ f = 66 ∨ f = 67 ∨ f = 68 ∨ f = 69 ∨ f = 70 ∨ f = 71 ∨ f = 72 ∨ f = 73 ∨ f = 74 ∨ f = 75 ∨ f = 76 ∨ f = 77 ∨ f = 78 ∨ f = 79 ∨ f = 80 ∨ f = 81 ∨ f = 82 ∨ f = 83 ∨ f = 84 ∨ f = 85 ∨ f = 86 ∨ f = 87 ∨ f = 88 ∨ f = 89 ∨ f = 90 ∨ f = 91 ∨ f = 92 ∨ f = 93 ∨ f = 94 ∨ f = 95 := by omega
  rcases h with rfl | rfl | rfl | rfl | rfl | rfl | rfl | rfl | rfl | rfl | rfl | rfl | rfl | rfl | rfl | rfl | rfl | rfl | rfl | rfl | rfl | rfl | rfl | rfl | rfl | rfl | rfl | rfl | rfl | rfl | rfl | rfl
  · exact .inr ⟨_, Go.Proofs.Tryz.func64, rfl⟩
  · exact .inr ⟨_, Go.Proofs.Tryz.func65, rfl⟩
  · exact .inr ⟨_, Go.Proofs.Tryz.func66, rfl⟩
  · exact .inr ⟨_, Go.Proofs.Tryz.func67, rfl⟩
  · exact .inr ⟨_, Go.Proofs.Tryz.func68, rfl⟩
  · exact .inr ⟨_, Go.Proofs.Tryz.func69, rfl⟩
  · exact .inr ⟨_, Go.Proofs.Tryz.func70, rfl⟩
  · exact .inr ⟨_, Go.Proofs.Tryz.func71, rfl⟩
  · exact .inr ⟨_, Go.Proofs.Tryz.func72, rfl⟩
  · exact .inr ⟨_, Go.Proofs.Tryz.func73, rfl⟩
  · exact .inr ⟨_, Go.Proofs.Tryz.func74, rfl⟩
  · exact .inr ⟨_, Go.Proofs.Tryz.func75, rfl⟩
  · exact .inr ⟨_, Go.Proofs.Tryz.func76, rfl⟩
  · exact .inr ⟨_, Go.Proofs.Tryz.func77, rfl⟩
  · exact .inr ⟨_, Go.Proofs.Tryz.func78, rfl⟩
  · exact .inr ⟨_, Go.Proofs.Tryz.func79, rfl⟩
  · exact .inr ⟨_, Go.Proofs.Tryz.func80, rfl⟩
  · exact .inr ⟨_, Go.Proofs.Tryz.func81, rfl⟩
  · exact .inr ⟨_, Go.Proofs.Tryz.func82, rfl⟩
  · exact .inr ⟨_, Go.Proofs.Tryz.func83, rfl⟩
  · exact .inr ⟨_, Go.Proofs.Tryz.func84, rfl⟩
  · exact .inr ⟨_, Go.Proofs.Tryz.func85, rfl⟩
  · exact .inr ⟨_, Go.Proofs.Tryz.func86, rfl⟩
  · exact .inr ⟨_, Go.Proofs.Tryz.func87, rfl⟩
  · exact .inr ⟨_, Go.Proofs.Tryz.func88, rfl⟩
  · exact .inr ⟨_, Go.Proofs.Tryz.func89, rfl⟩
  · exact .inr ⟨_, Go.Proofs.Tryz.func90, rfl⟩
  · exact .inr ⟨_, Go.Proofs.Tryz.func91, rfl⟩
  · exact .inr ⟨_, Go.Proofs.Tryz.func92, rfl⟩
  · exact .inr ⟨_, Go.Proofs.Tryz.func93, rfl⟩
  · exact .inr ⟨_, Go.Proofs.Tryz.func94, rfl⟩
  · exact .inr ⟨_, Go.Proofs.Tryz.func95, rfl⟩
theorem ft_ok96 (f : Nat) (h1 : 96 ≤ f) (h2 : f < 128) : ft f = .bad ∨ ∃ fn, Go.Proofs.Tryz.prog.funcs[f]? = some fn ∧ ft f = cFn Go.Proofs.Tryz.prog fn := by
  have h : f = 96 ∨ f = 97 ∨ f = 98 ∨ f = 99 ∨ f = 100 ∨ f = 101 ∨ f = 102 ∨ f = 103 ∨ f = 104 ∨ f = 105 ∨ f = 106 ∨ f = 107 ∨ f = 108 ∨ f = 109 ∨ f = 110 ∨ f = 111 ∨ f = 112 ∨ f = 113 ∨ f = 114 ∨ f = 115 ∨ f = 116 ∨ f = 117 ∨ f = 118 ∨ f = 119 ∨ f = 120 ∨ f = 121 ∨ f = 122 ∨ f = 123 ∨ f = 124 ∨ f = 125 ∨ f = 126 ∨ f = 127 := by omega
  rcases h with rfl | rfl | rfl | rfl | rfl | rfl | rfl | rfl | rfl | rfl | rfl | rfl | rfl | rfl | rfl | rfl | rfl | rfl | rfl | rfl | rfl | rfl | rfl | rfl | rfl | rfl | rfl | rfl | rfl | rfl | rfl | rfl
  · exact .inr ⟨_, Go.Proofs.Tryz.func96, rfl⟩
  · exact .inr ⟨_, Go.Proofs.Tryz.func97, rfl⟩
  · exact .inr ⟨_, Go.Proofs.Tryz.func98, rfl⟩
  · exact .inr ⟨_, Go.Proofs.Tryz.func99, rfl⟩
  · exact .inr ⟨_, Go.Proofs.Tryz.func100, rfl⟩
  · exact .inr ⟨_, Go.Proofs.Tryz.func101, rfl⟩
  · exact .inr ⟨_, Go.Proofs.Tryz.func102, rfl⟩
  · exact .inr ⟨_, Go.Proofs.Tryz.func103, rfl⟩
  · exact .inr ⟨_, Go.Proofs.Tryz.func104, rfl⟩
  · exact .inr ⟨_, Go.Proofs.Tryz.func105, rfl⟩
  · exact .inr ⟨_, Go.Proofs.Tryz.func106, rfl⟩
  · exact .inr ⟨_, Go.Proofs.Tryz.func107, rfl⟩
  · exact .inr ⟨_, Go.Proofs.Tryz.func108, rfl⟩
  · exact .inr ⟨_, Go.Proofs.Tryz.func109, rfl⟩
  · exact .inr ⟨_, Go.Proofs.Tryz.func110, rfl⟩
  · exact .inr ⟨_, Go.Proofs.Tryz.func111, rfl⟩
  · exact .inr ⟨_, Go.Proofs.Tryz.func112, rfl⟩
  · exact .inr ⟨_, Go.Proofs.Tryz.func113, rfl⟩
  · exact .inr ⟨_, Go.Proofs.Tryz.func114, rfl⟩
  · exact .inr ⟨_, Go.Proofs.Tryz.func115, rfl⟩
  · exact .inr ⟨_, Go.Proofs.Tryz.func116, rfl⟩
  · exact .inr ⟨_, Go.Proofs.Tryz.func117, rfl⟩
  · exact .inr ⟨_, Go.Proofs.Tryz.func118, rfl⟩
  · exact .inr ⟨_, Go.Proofs.Tryz.func119, rfl⟩
  · exact .inr ⟨_, Go.Proofs.Tryz.func120, rfl⟩
  · exact .inr ⟨_, Go.Proofs.Tryz.func121, rfl⟩
  · exact .inr ⟨_, Go.Proofs.Tryz.func122, rfl⟩
  · exact .inr ⟨_, Go.Proofs.Tryz.func123, rfl⟩
  · exact .inr ⟨_, Go.Proofs.Tryz.func124, rfl⟩
  · exact .inr ⟨_, Go.Proofs.Tryz.func125, rfl⟩
  · exact .inr ⟨_, Go.Proofs.Tryz.func126, rfl⟩
  · exact .inr ⟨_, Go.Proofs.Tryz.func127, rfl⟩
theorem ft_ok128 (f : Nat) (h1 : 128 ≤ f) (h2 : f < 160) : ft f = .bad ∨ ∃ fn, Go.Proofs.Tryz.prog.funcs[f]? = some fn ∧ ft f = cFn Go.Proofs.Tryz.prog fn := by
  have h : f = 128 ∨ f = 129 ∨ f = 130 ∨ f = 131 ∨ f = 132 ∨ f = 133 ∨ f = 134 ∨ f = 135 ∨ f = 136 ∨ f = 137 ∨ f = 138 ∨ f = 139 ∨ f = 140 ∨ f = 141 ∨ f = 142 ∨ f = 143 ∨ f = 144 ∨ f = 145 ∨ f = 146 ∨ f = 147 ∨ f = 148 ∨ f = 149 ∨ f = 150 ∨ f = 151 ∨ f = 152 ∨ f = 153 ∨ f = 154 ∨ f = 155 ∨ f = 156 ∨ f = 157 ∨ f = 158 ∨ f = 159 := by omega
  rcases h with rfl | rfl | rfl | rfl | rfl | rfl | rfl | rfl | rfl | rfl | rfl | rfl | rfl | rfl | rfl | rfl | rfl | rfl | rfl | rfl | rfl | rfl | rfl | rfl | rfl | rfl | rfl | rfl | rfl | rfl | rfl | rfl
  · exact .inr ⟨_, Go.Proofs.Tryz.func128, rfl⟩
  · exact .inr ⟨_, Go.Proofs.Tryz.func129, rfl⟩
  · exact .inr ⟨_, Go.Proofs.Tryz.func130, rfl⟩
  · exact .inr ⟨_, Go.Proofs.Tryz.func131, rfl⟩
  · exact .inr ⟨_, Go.Proofs.Tryz.func132, rfl⟩
  · exact .inr ⟨_, Go.Proofs.Tryz.func133, rfl⟩
  · exact .inr ⟨_, Go.Proofs.Tryz.func134, rfl⟩
  · exact .inr ⟨_, Go.Proofs.Tryz.func135, rfl⟩
  · exact .inr ⟨_, Go.Proofs.Tryz.func136, rfl⟩
  · exact .inr ⟨_, Go.Proofs.Tryz.func137, rfl⟩
  · exact .inr ⟨_, Go.Proofs.Tryz.func138, rfl⟩
  · exact .inr ⟨_, Go.Proofs.Tryz.func139, rfl⟩
  · exact .inr ⟨_, Go.Proofs.Tryz.func140, rfl⟩
  · exact .inr ⟨_, Go.Proofs.Tryz.func141, rfl⟩
  · exact .inr ⟨_, Go.Proofs.Tryz.func142, rfl⟩
  · exact .inr ⟨_, Go.Proofs.Tryz.func143, rfl⟩
  · exact .inr ⟨_, Go.Proofs.Tryz.func144, rfl⟩
  · exact .inr ⟨_, Go.Proofs.Tryz.func145, rfl⟩
  · exact .inr ⟨_, Go.Proofs.Tryz.func146, rfl⟩
  · exact .inr ⟨_, Go.Proofs.Tryz.func147, rfl⟩
  · exact .inr ⟨_, Go.Proofs.Tryz.func148, rfl⟩
  · exact .inr ⟨_, Go.Proofs.Tryz.func149, rfl⟩
  · exact .inr ⟨_, Go.Proofs.Tryz.func150, rfl⟩
  · exact .inr ⟨_, Go.Proofs.Tryz.func151, rfl⟩
  · exact .inr ⟨_, Go.Proofs.Tryz.func152, rfl⟩
  · exact .inr ⟨_, Go.Proofs.Tryz.func153, rfl⟩
  · exact .inr ⟨_, Go.Proofs.Tryz.func154, rfl⟩
  · exact .inr ⟨_, Go.Proofs.Tryz.func155, rfl⟩
  · exact .inr ⟨_, Go.Proofs.Tryz.func156, rfl⟩
  · exact .inr ⟨_, Go.Proofs.Tryz.func157, rfl⟩
  · exact .inr ⟨_, Go.Proofs.Tryz.func158, rfl⟩
  · exact .inr ⟨_, Go.Proofs.Tryz.func159, rfl⟩
theorem ft_ok160 (f : Nat) (h1 : 160 ≤ f) (h2 : f < 192) : ft f = .bad ∨ ∃ fn, Go.Proofs.Tryz.prog.funcs[f]? = some fn ∧ ft f = cFn Go.Proofs.Tryz.prog fn := by
  have h : f = 160 ∨ f = 161 ∨ f = 162 ∨ f = 163 ∨ f = 164 ∨ f = 165 ∨ f = 166 ∨ f = 167 ∨ f = 168 ∨ f = 169 ∨ f = 170 ∨ f = 171 ∨ f = 172 ∨ f = 173 ∨ f = 174 ∨ f = 175 ∨ f = 176 ∨ f = 177 ∨ f = 178 ∨ f = 179 ∨ f = 180 ∨ f = 181 ∨ f = 182 ∨ f = 183 ∨ f = 184 ∨ f = 185 ∨ f = 186 ∨ f = 187 ∨ f = 188 ∨ f = 189 ∨ f = 190 ∨ f = 191 := by omega
  rcases h with rfl | rfl | rfl | rfl | rfl | rfl | rfl | rfl | rfl | rfl | rfl | rfl | rfl | rfl | rfl | rfl | rfl | rfl | rfl | rfl | rfl | rfl | rfl | rfl | rfl | rfl | rfl | rfl | rfl | rfl | rfl | rfl
  · exact .inr ⟨_, Go.Proofs.Tryz.func160, rfl⟩
  · exact .inr ⟨_, Go.Proofs.Tryz.func161, rfl⟩
  · exact .inr ⟨_, Go.Proofs.Tryz.func162, rfl⟩
  · exact .inr ⟨_, Go.Proofs.Tryz.func163, rfl⟩
  · exact .inr ⟨_, Go.Proofs.Tryz.func164, rfl⟩
  · exact .inr ⟨_, Go.Proofs.Tryz.func165, rfl⟩
  · exact .inr ⟨_, Go.Proofs.Tryz.func166, rfl⟩
  · exact .inr ⟨_, Go.Proofs.Tryz.func167, rfl⟩
  · exact .inr ⟨_, Go.Proofs.Tryz.func168, rfl⟩
  · exact .inr ⟨_, Go.Proofs.Tryz.func169, rfl⟩
  · exact .inr ⟨_, Go.Proofs.Tryz.func170, rfl⟩
  · exact .inr ⟨_, Go.Proofs.Tryz.func171, rfl⟩
  · exact .inr ⟨_, Go.Proofs.Tryz.func172, rfl⟩
  · exact .inr ⟨_, Go.Proofs.Tryz.func173, rfl⟩
  · exact .inr ⟨_, Go.Proofs.Tryz.func174, rfl⟩
  · exact .inr ⟨_, Go.Proofs.Tryz.func175, rfl⟩
  · exact .inr ⟨_, Go.Proofs.Tryz.func176, rfl⟩
  · exact .inr ⟨_, Go.Proofs.Tryz.func177, rfl⟩
  · exact .inr ⟨_, Go.Proofs.Tryz.func178, rfl⟩
  · exact .inr ⟨_, Go.Proofs.Tryz.func179, rfl⟩
  · exact .inr ⟨_, Go.Proofs.Tryz.func180, rfl⟩
  · exact .inr ⟨_, Go.Proofs.Tryz.func181, rfl⟩
  · exact .inr ⟨_, Go.Proofs.Tryz.func182, rfl⟩
  · exact .inr ⟨_, Go.Proofs.Tryz.func183, rfl⟩
  · exact .inr ⟨_, Go.Proofs.Tryz.func184, rfl⟩
  · exact .inr ⟨_, Go.Proofs.Tryz.func185, rfl⟩
  · exact .inr ⟨_, Go.Proofs.Tryz.func186, rfl⟩
  · exact .inr ⟨_, Go.Proofs.Tryz.func187, rfl⟩
  · exact .inr ⟨_, Go.Proofs.Tryz.func188, rfl⟩
  · exact .inr ⟨_, Go.Proofs.Tryz.func189, rfl⟩
  · exact .inr ⟨_, Go.Proofs.Tryz.func190, rfl⟩
  · exact .inr ⟨_, Go.Proofs.Tryz.func191, rfl⟩
theorem ft_ok192 (f : Nat) (h1 : 192 ≤ f) (h2 : f < 224) : ft f = .bad ∨ ∃ fn, Go.Proofs.Tryz.prog.funcs[f]? = some fn ∧ ft f = cFn Go.Proofs.Tryz.prog fn := by
  have h : f = 192 ∨ f = 193 ∨ f = 194 ∨ f = 195 ∨ f = 196 ∨ f = 197 ∨ f = 198 ∨ f = 199 ∨ f = 200 ∨ f = 201 ∨ f = 202 ∨ f = 203 ∨ f = 204 ∨ f = 205 ∨ f = 206 ∨ f = 207 ∨ f = 208 ∨ f = 209 ∨ f = 210 ∨ f = 211 ∨ f = 212 ∨ f = 213 ∨ f = 214 ∨ f = 215 ∨ f = 216 ∨ f = 217 ∨ f = 218 ∨ f = 219 ∨ f = 220 ∨ f = 221 ∨ f = 222 ∨ f = 223 := by omega
  rcases h with rfl | rfl | rfl | rfl | rfl | rfl | rfl | rfl | rfl | rfl | rfl | rfl | rfl | rfl | rfl | rfl | rfl | rfl | rfl | rfl | rfl | rfl | rfl | rfl | rfl | rfl | rfl | rfl | rfl | rfl | rfl | rfl
  · exact .inr ⟨_, Go.Proofs.Tryz.func192, rfl⟩
  · exact .inr ⟨_, Go.Proofs.Tryz.func193, rfl⟩
  · exact .inr ⟨_, Go.Proofs.Tryz.func194, rfl⟩
  · exact .inr ⟨_, Go.Proofs.Tryz.func195, rfl⟩
  · exact .inr ⟨_, Go.Proofs.Tryz.func196, rfl⟩
  · exact .inr ⟨_, Go.Proofs.Tryz.func197, rfl⟩
  · exact .inr ⟨_, Go.Proofs.Tryz.func198, rfl⟩
  · exact .inr ⟨_, Go.Proofs.Tryz.func199, rfl⟩
  · exact .inr ⟨_, Go.Proofs.Tryz.func200, rfl⟩
  · exact .inr ⟨_, Go.Proofs.Tryz.func201, rfl⟩
  · exact .inr ⟨_, Go.Proofs.Tryz.func202, rfl⟩
  · exact .inr ⟨_, Go.Proofs.Tryz.func203, rfl⟩
  · exact .inr ⟨_, Go.Proofs.Tryz.func204, rfl⟩
  · exact .inr ⟨_, Go.Proofs.Tryz.func205, rfl⟩
  · exact .inr ⟨_, Go.Proofs.Tryz.func206, rfl⟩
  · exact .inr ⟨_, Go.Proofs.Tryz.func207, rfl⟩
  · exact .inr ⟨_, Go.Proofs.Tryz.func208, rfl⟩
  · exact .inr ⟨_, Go.Proofs.Tryz.func209, rfl⟩
  · exact .inr ⟨_, Go.Proofs.Tryz.func210, rfl⟩
  · exact .inr ⟨_, Go.Proofs.Tryz.func211, rfl⟩
  · exact .inr ⟨_, Go.Proofs.Tryz.func212, rfl⟩
  · exact .inr ⟨_, Go.Proofs.Tryz.func213, rfl⟩
  · exact .inr ⟨_, Go.Proofs.Tryz.func214, rfl⟩
  · exact .inr ⟨_, Go.Proofs.Tryz.func215, rfl⟩
  · exact .inr ⟨_, Go.Proofs.Tryz.func216, rfl⟩
  · exact .inr ⟨_, Go.Proofs.Tryz.func217, rfl⟩
  · exact .inr ⟨_, Go.Proofs.Tryz.func218, rfl⟩
  · exact .inr ⟨_, Go.Proofs.Tryz.func219, rfl⟩
  · exact .inr ⟨_, Go.Proofs.Tryz.func220, rfl⟩
  · exact .inr ⟨_, Go.Proofs.Tryz.func221, rfl⟩
  · exact .inr ⟨_, Go.Proofs.Tryz.func222, rfl⟩
  · exact .inr ⟨_, Go.Proofs.Tryz.func223, rfl⟩
theorem ft_ok224 (f : Nat) (h1 : 224 ≤ f) (h2 : f < 256) : ft f = .bad ∨ ∃ fn, Go.Proofs.Tryz.prog.funcs[f]? = some fn ∧ ft f = cFn Go.Proofs.Tryz.prog fn := by
  have h : f = 224 ∨ f = 225 ∨ f = 226 ∨ f = 227 ∨ f = 228 ∨ f = 229 ∨ f = 230 ∨ f = 231 ∨ f = 232 ∨ f = 233 ∨ f = 234 ∨ f = 235 ∨ f = 236 ∨ f = 237 ∨ f = 238 ∨ f = 239 ∨ f = 240 ∨ f = 241 ∨ f = 242 ∨ f = 243 ∨ f = 244 ∨ f = 245 ∨ f = 246 ∨ f = 247 ∨ f = 248 ∨ f = 249 ∨ f = 250 ∨ f = 251 ∨ f = 252 ∨ f = 253 ∨ f = 254 ∨ f = 255 := by omega
  rcases h with rfl | rfl | rfl | rfl | rfl | rfl | rfl | rfl | rfl | rfl | rfl | rfl | rfl | rfl | rfl | rfl | rfl | rfl | rfl | rfl | rfl | rfl | rfl | rfl | rfl | rfl | rfl | rfl | rfl | rfl | rfl | rfl
  · exact .inr ⟨_, Go.Proofs.Tryz.func224, rfl⟩
  · exact .inr ⟨_, Go.Proofs.Tryz.func225, rfl⟩
  · exact .inr ⟨_, Go.Proofs.Tryz.func226, rfl⟩
  · exact .inr ⟨_, Go.Proofs.Tryz.func227, rfl⟩
  · exact .inr ⟨_, Go.Proofs.Tryz.func228, rfl⟩
  · exact .inr ⟨_, Go.Proofs.Tryz.func229, rfl⟩
  · exact .inr ⟨_, Go.Proofs.Tryz.func230, rfl⟩
  · exact .inr ⟨_, Go.Proofs.Tryz.func231, rfl⟩
  · exact .inr ⟨_, Go.Proofs.Tryz.func232, rfl⟩
  · exact .inr ⟨_, Go.Proofs.Tryz.func233, rfl⟩
  · exact .inr ⟨_, Go.Proofs.Tryz.func234, rfl⟩
  · exact .inr ⟨_, Go.Proofs.Tryz.func235, rfl⟩
  · exact .inr ⟨_, Go.Proofs.Tryz.func236, rfl⟩
  · exact .inr ⟨_, Go.Proofs.Tryz.func237, rfl⟩
  · exact .inr ⟨_, Go.Proofs.Tryz.func238, rfl⟩
  · exact .inr ⟨_, Go.Proofs.Tryz.func239, rfl⟩
  · exact .inr ⟨_, Go.Proofs.Tryz.func240, rfl⟩
  · exact .inr ⟨_, Go.Proofs.Tryz.func241, rfl⟩
  · exact .inr ⟨_, Go.Proofs.Tryz.func242, rfl⟩
  · exact .inr ⟨_, Go.Proofs.Tryz.func243, rfl⟩
  · exact .inr ⟨_, Go.Proofs.Tryz.func244, rfl⟩
  · exact .inr ⟨_, Go.Proofs.Tryz.func245, rfl⟩
  · exact .inr ⟨_, Go.Proofs.Tryz.func246, rfl⟩
  · exact .inr ⟨_, Go.Proofs.Tryz.func247, rfl⟩
  · exact .inr ⟨_, Go.Proofs.Tryz.func248, rfl⟩
  · exact .inr ⟨_, Go.Proofs.Tryz.func249, rfl⟩
  · exact .inr ⟨_, Go.Proofs.Tryz.func250, rfl⟩
  · exact .inr ⟨_, Go.Proofs.Tryz.func251, rfl⟩
  · exact .inr ⟨_, Go.Proofs.Tryz.func252, rfl⟩
  · exact .inr ⟨_, Go.Proofs.Tryz.func253, rfl⟩
  · exact .inr ⟨_, Go.Proofs.Tryz.func254, rfl⟩
  · exact .inr ⟨_, Go.Proofs.Tryz.func255, rfl⟩
theorem ft_ok256 (f : Nat) (h1 : 256 ≤ f) (h2 : f < 288) : ft f = .bad ∨ ∃ fn, Go.Proofs.Tryz.prog.funcs[f]? = some fn ∧ ft f = cFn Go.Proofs.Tryz.prog fn := by
  have h : f = 256 ∨ f = 257 ∨ f = 258 ∨ f = 259 ∨ f = 260 ∨ f = 261 ∨ f = 262 ∨ f = 263 ∨ f = 264 ∨ f = 265 ∨ f = 266 ∨ f = 267 ∨ f = 268 ∨ f = 269 ∨ f = 270 ∨ f = 271 ∨ f = 272 ∨ f = 273 ∨ f = 274 ∨ f = 275 ∨ f = 276 ∨ f = 277 ∨ f = 278 ∨ f = 279 ∨ f = 280 ∨ f = 281 ∨ f = 282 ∨ f = 283 ∨ f = 284 ∨ f = 285 ∨ f = 286 ∨ f = 287 := by omega
  rcases h with rfl | rfl | rfl | rfl | rfl | rfl | rfl | rfl | rfl | rfl | rfl | rfl | rfl | rfl | rfl | rfl | rfl | rfl | rfl | rfl | rfl | rfl | rfl | rfl | rfl | rfl | rfl | rfl | rfl | rfl | rfl | rfl
  · exact .inr ⟨_, Go.Proofs.Tryz.func256, rfl⟩
  · exact .inr ⟨_, Go.Proofs.Tryz.func257, rfl⟩
  · exact .inr ⟨_, Go.Proofs.Tryz.func258, rfl⟩
  · exact .inr ⟨_, Go.Proofs.Tryz.func259, rfl⟩
  · exact .inr ⟨_, Go.Proofs.Tryz.func260, rfl⟩
  · exact .inr ⟨_, Go.Proofs.Tryz.func261, rfl⟩
  · exact .inr ⟨_, Go.Proofs.Tryz.func262, rfl⟩
  · exact .inr ⟨_, Go.Proofs.Tryz.func263, rfl⟩
  · exact .inr ⟨_, Go.Proofs.Tryz.func264, rfl⟩
  · exact .inr ⟨_, Go.Proofs.Tryz.func265, rfl⟩
  · exact .inr ⟨_, Go.Proofs.Tryz.func266, rfl⟩
  · exact .inr ⟨_, Go.Proofs.Tryz.func267, rfl⟩
  · exact .inr ⟨_, Go.Proofs.Tryz.func268, rfl⟩
  · exact .inr ⟨_, Go.Proofs.Tryz.func269, rfl⟩
  · exact .inr ⟨_, Go.Proofs.Tryz.func270, rfl⟩
  · exact .inr ⟨_, Go.Proofs.Tryz.func271, rfl⟩
  · exact .inr ⟨_, Go.Proofs.Tryz.func272, rfl⟩
  · exact .inr ⟨_, Go.Proofs.Tryz.func273, rfl⟩
  · exact .inr ⟨_, Go.Proofs.Tryz.func274, rfl⟩
  · exact .inr ⟨_, Go.Proofs.Tryz.func275, rfl⟩
  · exact .inr ⟨_, Go.Proofs.Tryz.func276, rfl⟩
  · exact .inr ⟨_, Go.Proofs.Tryz.func277, rfl⟩
  · exact .inr ⟨_, Go.Proofs.Tryz.func278, rfl⟩
  · exact .inr ⟨_, Go.Proofs.Tryz.func279, rfl⟩
  · exact .inr ⟨_, Go.Proofs.Tryz.func280, rfl⟩
  · exact .inr ⟨_, Go.Proofs.Tryz.func281, rfl⟩
  · exact .inr ⟨_, Go.Proofs.Tryz.func282, rfl⟩
  · exact .inr ⟨_, Go.Proofs.Tryz.func283, rfl⟩
  · exact .inr ⟨_, Go.Proofs.Tryz.func284, rfl⟩
  · exact .inr ⟨_, Go.Proofs.Tryz.func285, rfl⟩
  · exact .inr ⟨_, Go.Proofs.Tryz.func286, rfl⟩
  · exact .inr ⟨_, Go.Proofs.Tryz.func287, rfl⟩
theorem ft_ok288 (f : Nat) (h1 : 288 ≤ f) (h2 : f < 320) : ft f = .bad ∨ ∃ fn, Go.Proofs.Tryz.prog.funcs[f]? = some fn ∧ ft f = cFn Go.Proofs.Tryz.prog fn := by
  have h : f = 288 ∨ f = 289 ∨ f = 290 ∨ f = 291 ∨ f = 292 ∨ f = 293 ∨ f = 294 ∨ f = 295 ∨ f = 296 ∨ f = 297 ∨ f = 298 ∨ f = 299 ∨ f = 300 ∨ f = 301 ∨ f = 302 ∨ f = 303 ∨ f = 304 ∨ f = 305 ∨ f = 306 ∨ f = 307 ∨ f = 308 ∨ f = 309 ∨ f = 310 ∨ f = 311 ∨ f = 312 ∨ f = 313 ∨ f = 314 ∨ f = 315 ∨ f = 316 ∨ f = 317 ∨ f = 318 ∨ f = 319 := by omega
  rcases h with rfl | rfl | rfl | rfl | rfl | rfl | rfl | rfl | rfl | rfl | rfl | rfl | rfl | rfl | rfl | rfl | rfl | rfl | rfl | rfl | rfl | rfl | rfl | rfl | rfl | rfl | rfl | rfl | rfl | rfl | rfl | rfl
  · exact .inr ⟨_, Go.Proofs.Tryz.func288, rfl⟩
  · exact .inr ⟨_, Go.Proofs.Tryz.func289, rfl⟩
  · exact .inr ⟨_, Go.Proofs.Tryz.func290, rfl⟩
  · exact .inr ⟨_, Go.Proofs.Tryz.func291, rfl⟩
  · exact .inr ⟨_, Go.Proofs.Tryz.func292, rfl⟩
  · exact .inr ⟨_, Go.Proofs.Tryz.func293, rfl⟩
  · exact .inr ⟨_, Go.Proofs.Tryz.func294, rfl⟩
  · exact .inr ⟨_, Go.Proofs.Tryz.func295, rfl⟩
  · exact .inr ⟨_, Go.Proofs.Tryz.func296, rfl⟩
  · exact .inr ⟨_, Go.Proofs.Tryz.func297, rfl⟩
  · exact .inr ⟨_, Go.Proofs.Tryz.func298, rfl⟩
  · exact .inr ⟨_, Go.Proofs.Tryz.func299, rfl⟩
  · exact .inr ⟨_, Go.Proofs.Tryz.func300, rfl⟩
  · exact .inr ⟨_, Go.Proofs.Tryz.func301, rfl⟩
  · exact .inr ⟨_, Go.Proofs.Tryz.func302, rfl⟩
  · exact .inr ⟨_, Go.Proofs.Tryz.func303, rfl⟩
  · exact .inr ⟨_, Go.Proofs.Tryz.func304, rfl⟩
  · exact .inr ⟨_, Go.Proofs.Tryz.func305, rfl⟩
  · exact .inr ⟨_, Go.Proofs.Tryz.func306, rfl⟩
  · exact .inr ⟨_, Go.Proofs.Tryz.func307, rfl⟩
  · exact .inr ⟨_, Go.Proofs.Tryz.func308, rfl⟩
  · exact .inr ⟨_, Go.Proofs.Tryz.func309, rfl⟩
  · exact .inr ⟨_, Go.Proofs.Tryz.func310, rfl⟩
  · exact .inr ⟨_, Go.Proofs.Tryz.func311, rfl⟩
  · exact .inr ⟨_, Go.Proofs.Tryz.func312, rfl⟩
  · exact .inr ⟨_, Go.Proofs.Tryz.func313, rfl⟩
  · exact .inr ⟨_, Go.Proofs.Tryz.func314, rfl⟩
  · exact .inr ⟨_, Go.Proofs.Tryz.func315, rfl⟩
  · exact .inr ⟨_, Go.Proofs.Tryz.func316, rfl⟩
  · exact .inr ⟨_, Go.Proofs.Tryz.func317, rfl⟩
  · exact .inr ⟨_, Go.Proofs.Tryz.func318, rfl⟩
  · exact .inr ⟨_, Go.Proofs.Tryz.func319, rfl⟩
theorem ft_ok320 (f : Nat) (h1 : 320 ≤ f) (h2 : f < 352) : ft f = .bad ∨ ∃ fn, Go.Proofs.Tryz.prog.funcs[f]? = some fn ∧ ft f = cFn Go.Proofs.Tryz.prog fn := by
  have h : f = 320 ∨ f = 321 ∨ f = 322 ∨ f = 323 ∨ f = 324 ∨ f = 325 ∨ f = 326 ∨ f = 327 ∨ f = 328 ∨ f = 329 ∨ f = 330 ∨ f = 331 ∨ f = 332 ∨ f = 333 ∨ f = 334 ∨ f = 335 ∨ f = 336 ∨ f = 337 ∨ f = 338 ∨ f = 339 ∨ f = 340 ∨ f = 341 ∨ f = 342 ∨ f = 343 ∨ f = 344 ∨ f = 345 ∨ f = 346 ∨ f = 347 ∨ f = 348 ∨ f = 349 ∨ f = 350 ∨ f = 351 := by omega
  rcases h with rfl | rfl | rfl | rfl | rfl | rfl | rfl | rfl | rfl | rfl | rfl | rfl | rfl | rfl | rfl | rfl | rfl | rfl | rfl | rfl | rfl | rfl | rfl | rfl | rfl | rfl | rfl | rfl | rfl | rfl | rfl | rfl
  · exact .inr ⟨_, Go.Proofs.Tryz.func320, rfl⟩
  · exact .inr ⟨_, Go.Proofs.Tryz.func321, rfl⟩
  · exact .inr ⟨_, Go.Proofs.Tryz.func322, rfl⟩
  · exact .inr ⟨_, Go.Proofs.Tryz.func323, rfl⟩
  · exact .inr ⟨_, Go.Proofs.Tryz.func324, rfl⟩
  · exact .inr ⟨_, Go.Proofs.Tryz.func325, rfl⟩
  · exact .inr ⟨_, Go.Proofs.Tryz.func326, rfl⟩
  · exact .inr ⟨_, Go.Proofs.Tryz.func327, rfl⟩
  · exact .inr ⟨_, Go.Proofs.Tryz.func328, rfl⟩
  · exact .inr ⟨_, Go.Proofs.Tryz.func329, rfl⟩
  · exact .inr ⟨_, Go.Proofs.Tryz.func330, rfl⟩
  · exact .inr ⟨_, Go.Proofs.Tryz.func331, rfl⟩
  · exact .inr ⟨_, Go.Proofs.Tryz.func332, rfl⟩
  · exact .inr ⟨_, Go.Proofs.Tryz.func333, rfl⟩
  · exact .inr ⟨_, Go.Proofs.Tryz.func334, rfl⟩
  · exact .inr ⟨_, Go.Proofs.Tryz.func335, rfl⟩
  · exact .inr ⟨_, Go.Proofs.Tryz.func336, rfl⟩
  · exact .inr ⟨_, Go.Proofs.Tryz.func337, rfl⟩
  · exact .inr ⟨_, Go.Proofs.Tryz.func338, rfl⟩
  · exact .inr ⟨_, Go.Proofs.Tryz.func339, rfl⟩
  · exact .inr ⟨_, Go.Proofs.Tryz.func340, rfl⟩
  · exact .inr ⟨_, Go.Proofs.Tryz.func341, rfl⟩
  · exact .inr ⟨_, Go.Proofs.Tryz.func342, rfl⟩
  · exact .inr ⟨_, Go.Proofs.Tryz.func343, rfl⟩
  · exact .inr ⟨_, Go.Proofs.Tryz.func344, rfl⟩
  · exact .inr ⟨_, Go.Proofs.Tryz.func345, rfl⟩
  · exact .inr ⟨_, Go.Proofs.Tryz.func346, rfl⟩
  · exact .inr ⟨_, Go.Proofs.Tryz.func347, rfl⟩
  · exact .inr ⟨_, Go.Proofs.Tryz.func348, rfl⟩
  · exact .inr ⟨_, Go.Proofs.Tryz.func349, rfl⟩
  · exact .inr ⟨_, Go.Proofs.Tryz.func350, rfl⟩
  · exact .inr ⟨_, Go.Proofs.Tryz.func351, rfl⟩
theorem ft_ok352 (f : Nat) (h1 : 352 ≤ f) (h2 : f < 384) : ft f = .bad ∨ ∃ fn, Go.Proofs.Tryz.prog.funcs[f]? = some fn ∧ ft f = cFn Go.Proofs.Tryz.prog fn := by
  have h : f = 352 ∨ f = 353 ∨ f = 354 ∨ f = 355 ∨ f = 356 ∨ f = 357 ∨ f = 358 ∨ f = 359 ∨ f = 360 ∨ f = 361 ∨ f = 362 ∨ f = 363 ∨ f = 364 ∨ f = 365 ∨ f = 366 ∨ f = 367 ∨ f = 368 ∨ f = 369 ∨ f = 370 ∨ f = 371 ∨ f = 372 ∨ f = 373 ∨ f = 374 ∨ f = 375 ∨ f = 376 ∨ f = 377 ∨ f = 378 ∨ f = 379 ∨ f = 380 ∨ f = 381 ∨ f = 382 ∨ f = 383 := by omega
  rcases h with rfl | rfl | rfl | rfl | rfl | rfl | rfl | rfl | rfl | rfl | rfl | rfl | rfl | rfl | rfl | rfl | rfl | rfl | rfl | rfl | rfl | rfl | rfl | rfl | rfl | rfl | rfl | rfl | rfl | rfl | rfl | rfl
  · exact .inr ⟨_, Go.Proofs.Tryz.func352, rfl⟩
  · exact .inr ⟨_, Go.Proofs.Tryz.func353, rfl⟩
  · exact .inr ⟨_, Go.Proofs.Tryz.func354, rfl⟩
  · exact .inr ⟨_, Go.Proofs.Tryz.func355, rfl⟩
  · exact .inr ⟨_, Go.Proofs.Tryz.func356, rfl⟩
  · exact .inr ⟨_, Go.Proofs.Tryz.func357, rfl⟩
  · exact .inr ⟨_, Go.Proofs.Tryz.func358, rfl⟩
  · exact .inr ⟨_, Go.Proofs.Tryz.func359, rfl⟩
  · exact .inr ⟨_, Go.Proofs.Tryz.func360, rfl⟩
  · exact .inr ⟨_, Go.Proofs.Tryz.func361, rfl⟩
  · exact .inr ⟨_, Go.Proofs.Tryz.func362, rfl⟩
  · exact .inr ⟨_, Go.Proofs.Tryz.func363, rfl⟩
  · exact .inr ⟨_, Go.Proofs.Tryz.func364, rfl⟩
  · exact .inr ⟨_, Go.Proofs.Tryz.func365, rfl⟩
  · exact .inr ⟨_, Go.Proofs.Tryz.func366, rfl⟩
  · exact .inr ⟨_, Go.Proofs.Tryz.func367, rfl⟩
  · exact .inr ⟨_, Go.Proofs.Tryz.func368, rfl⟩
  · exact .inr ⟨_, Go.Proofs.Tryz.func369, rfl⟩
  · exact .inr ⟨_, Go.Proofs.Tryz.func370, rfl⟩
  · exact .inr ⟨_, Go.Proofs.Tryz.func371, rfl⟩
  · exact .inr ⟨_, Go.Proofs.Tryz.func372, rfl⟩
  · exact .inr ⟨_, Go.Proofs.Tryz.func373, rfl⟩
  · exact .inr ⟨_, Go.Proofs.Tryz.func374, rfl⟩
  · exact .inr ⟨_, Go.Proofs.Tryz.func375, rfl⟩
  · exact .inr ⟨_, Go.Proofs.Tryz.func376, rfl⟩
  · exact .inr ⟨_, Go.Proofs.Tryz.func377, rfl⟩
  · exact .inr ⟨_, Go.Proofs.Tryz.func378, rfl⟩
  · exact .inr ⟨_, Go.Proofs.Tryz.func379, rfl⟩
  · exact .inr ⟨_, Go.Proofs.Tryz.func380, rfl⟩
  · exact .inr ⟨_, Go.Proofs.Tryz.func381, rfl⟩
  · exact .inr ⟨_, Go.Proofs.Tryz.func382, rfl⟩
  · exact .inr ⟨_, Go.Proofs.Tryz.func383, rfl⟩
theorem ft_ok384 (f : Nat) (h1 : 384 ≤ f) (h2 : f < 416) : ft f = .bad ∨ ∃ fn, Go.Proofs.Tryz.prog.funcs[f]? = some fn ∧ ft f = cFn Go.Proofs.Tryz.prog fn := by
  have h : f = 384 ∨ f = 385 ∨ f = 386 ∨ f = 387 ∨ f = 388 ∨ f = 389 ∨ f = 390 ∨ f = 391 ∨ f = 392 ∨ f = 393 ∨ f = 394 ∨ f = 395 ∨ f = 396 ∨ f = 397 ∨ f = 398 ∨ f = 399 ∨ f = 400 ∨ f = 401 ∨ f = 402 ∨ f = 403 ∨ f = 404 ∨ f = 405 ∨ f = 406 ∨ f = 407 ∨ f = 408 ∨ f = 409 ∨ f = 410 ∨ f = 411 ∨ f = 412 ∨ f = 413 ∨ f = 414 ∨ f = 415 := by omega
  rcases h with rfl | rfl | rfl | rfl | rfl | rfl | rfl | rfl | rfl | rfl | rfl | rfl | rfl | rfl | rfl | rfl | rfl | rfl | rfl | rfl | rfl | rfl | rfl | rfl | rfl | rfl | rfl | rfl | rfl | rfl | rfl | rfl
  · exact .inr ⟨_, Go.Proofs.Tryz.func384, rfl⟩
  · exact .inr ⟨_, Go.Proofs.Tryz.func385, rfl⟩
  · exact .inr ⟨_, Go.Proofs.Tryz.func386, rfl⟩
  · exact .inr ⟨_, Go.Proofs.Tryz.func387, rfl⟩
  · exact .inr ⟨_, Go.Proofs.Tryz.func388, rfl⟩
  · exact .inr ⟨_, Go.Proofs.Tryz.func389, rfl⟩
  · exact .inr ⟨_, Go.Proofs.Tryz.func390, rfl⟩
  · exact .inr ⟨_, Go.Proofs.Tryz.func391, rfl⟩
  · exact .inr ⟨_, Go.Proofs.Tryz.func392, rfl⟩
  · exact .inr ⟨_, Go.Proofs.Tryz.func393, rfl⟩
  · exact .inr ⟨_, Go.Proofs.Tryz.func394, rfl⟩
  · exact .inr ⟨_, Go.Proofs.Tryz.func395, rfl⟩
  · exact .inr ⟨_, Go.Proofs.Tryz.func396, rfl⟩
  · exact .inr ⟨_, Go.Proofs.Tryz.func397, rfl⟩
  · exact .inr ⟨_, Go.Proofs.Tryz.func398, rfl⟩
  · exact .inr ⟨_, Go.Proofs.Tryz.func399, rfl⟩
  · exact .inr ⟨_, Go.Proofs.Tryz.func400, rfl⟩
  · exact .inr ⟨_, Go.Proofs.Tryz.func401, rfl⟩
  · exact .inr ⟨_, Go.Proofs.Tryz.func402, rfl⟩
  · exact .inr ⟨_, Go.Proofs.Tryz.func403, rfl⟩
  · exact .inr ⟨_, Go.Proofs.Tryz.func404, rfl⟩
  · exact .inr ⟨_, Go.Proofs.Tryz.func405, rfl⟩
  · exact .inr ⟨_, Go.Proofs.Tryz.func406, rfl⟩
  · exact .inr ⟨_, Go.Proofs.Tryz.func407, rfl⟩
  · exact .inr ⟨_, Go.Proofs.Tryz.func408, rfl⟩
  · exact .inr ⟨_, Go.Proofs.Tryz.func409, rfl⟩
  · exact .inr ⟨_, Go.Proofs.Tryz.func410, rfl⟩
  · exact .inr ⟨_, Go.Proofs.Tryz.func411, rfl⟩
  · exact .inr ⟨_, Go.Proofs.Tryz.func412, rfl⟩
  · exact .inr ⟨_, Go.Proofs.Tryz.func413, rfl⟩
  · exact .inr ⟨_, Go.Proofs.Tryz.func414, rfl⟩
  · exact .inr ⟨_, Go.Proofs.Tryz.func415, rfl⟩
theorem ft_ok416 (f : Nat) (h1 : 416 ≤ f) (h2 : f < 448) : ft f = .bad ∨ ∃ fn, Go.Proofs.Tryz.prog.funcs[f]? = some fn ∧ ft f = cFn Go.Proofs.Tryz.prog fn := by
  have h : f = 416 ∨ f = 417 ∨ f = 418 ∨ f = 419 ∨ f = 420 ∨ f = 421 ∨ f = 422 ∨ f = 423 ∨ f = 424 ∨ f = 425 ∨ f = 426 ∨ f = 427 ∨ f = 428 ∨ f = 429 ∨ f = 430 ∨ f = 431 ∨ f = 432 ∨ f = 433 ∨ f = 434 ∨ f = 435 ∨ f = 436 ∨ f = 437 ∨ f = 438 ∨ f = 439 ∨ f = 440 ∨ f = 441 ∨ f = 442 ∨ f = 443 ∨ f = 444 ∨ f = 445 ∨ f = 446 ∨ f = 447 := by omega
  rcases h with rfl | rfl | rfl | rfl | rfl | rfl | rfl | rfl | rfl | rfl | rfl | rfl | rfl | rfl | rfl | rfl | rfl | rfl | rfl | rfl | rfl | rfl | rfl | rfl | rfl | rfl | rfl | rfl | rfl | rfl | rfl | rfl
  · exact .inr ⟨_, Go.Proofs.Tryz.func416, rfl⟩
  · exact .inr ⟨_, Go.Proofs.Tryz.func417, rfl⟩
  · exact .inr ⟨_, Go.Proofs.Tryz.func418, rfl⟩
  · exact .inr ⟨_, Go.Proofs.Tryz.func419, rfl⟩
  · exact .inr ⟨_, Go.Proofs.Tryz.func420, rfl⟩
  · exact .inr ⟨_, Go.Proofs.Tryz.func421, rfl⟩
  · exact .inr ⟨_, Go.Proofs.Tryz.func422, rfl⟩
  · exact .inr ⟨_, Go.Proofs.Tryz.func423, rfl⟩
  · exact .inr ⟨_, Go.Proofs.Tryz.func424, rfl⟩
  · exact .inr ⟨_, Go.Proofs.Tryz.func425, rfl⟩
  · exact .inr ⟨_, Go.Proofs.Tryz.func426, rfl⟩
  · exact .inr ⟨_, Go.Proofs.Tryz.func427, rfl⟩
  · exact .inr ⟨_, Go.Proofs.Tryz.func428, rfl⟩
  · exact .inr ⟨_, Go.Proofs.Tryz.func429, rfl⟩
  · exact .inr ⟨_, Go.Proofs.Tryz.func430, rfl⟩
  · exact .inr ⟨_, Go.Proofs.Tryz.func431, rfl⟩
  · exact .inr ⟨_, Go.Proofs.Tryz.func432, rfl⟩
  · exact .inr ⟨_, Go.Proofs.Tryz.func433, rfl⟩
  · exact .inr ⟨_, Go.Proofs.Tryz.func434, rfl⟩
  · exact .inr ⟨_, Go.Proofs.Tryz.func435, rfl⟩
  · exact .inr ⟨_, Go.Proofs.Tryz.func436, rfl⟩
  · exact .inr ⟨_, Go.Proofs.Tryz.func437, rfl⟩
  · exact .inr ⟨_, Go.Proofs.Tryz.func438, rfl⟩
  · exact .inr ⟨_, Go.Proofs.Tryz.func439, rfl⟩
  · exact .inr ⟨_, Go.Proofs.Tryz.func440, rfl⟩
  · exact .inr ⟨_, Go.Proofs.Tryz.func441, rfl⟩
  · exact .inr ⟨_, Go.Proofs.Tryz.func442, rfl⟩
  · exact .inr ⟨_, Go.Proofs.Tryz.func443, rfl⟩
  · exact .inr ⟨_, Go.Proofs.Tryz.func444, rfl⟩
  · exact .inr ⟨_, Go.Proofs.Tryz.func445, rfl⟩
  · exact .inr ⟨_, Go.Proofs.Tryz.func446, rfl⟩
  · exact .inr ⟨_, Go.Proofs.Tryz.func447, rfl⟩
theorem ft_ok448 (f : Nat) (h1 : 448 ≤ f) (h2 : f < 480) : ft f = .bad ∨ ∃ fn, Go.Proofs.Tryz.prog.funcs[f]? = some fn ∧ ft f = cFn Go.Proofs.Tryz.prog fn := by
  have h : f = 448 ∨ f = 449 ∨ f = 450 ∨ f = 451 ∨ f = 452 ∨ f = 453 ∨ f = 454 ∨ f = 455 ∨ f = 456 ∨ f = 457 ∨ f = 458 ∨ f = 459 ∨ f = 460 ∨ f = 461 ∨ f = 462 ∨ f = 463 ∨ f = 464 ∨ f = 465 ∨ f = 466 ∨ f = 467 ∨ f = 468 ∨ f = 469 ∨ f = 470 ∨ f = 471 ∨ f = 472 ∨ f = 473 ∨ f = 474 ∨ f = 475 ∨ f = 476 ∨ f = 477 ∨ f = 478 ∨ f = 479 := by omega
  rcases h with rfl | rfl | rfl | rfl | rfl | rfl | rfl | rfl | rfl | rfl | rfl | rfl | rfl | rfl | rfl | rfl | rfl | rfl | rfl | rfl | rfl | rfl | rfl | rfl | rfl | rfl | rfl | rfl | rfl | rfl | rfl | rfl
  · exact .inr ⟨_, Go.Proofs.Tryz.func448, rfl⟩
  · exact .inr ⟨_, Go.Proofs.Tryz.func449, rfl⟩
  · exact .inr ⟨_, Go.Proofs.Tryz.func450, rfl⟩
  · exact .inr ⟨_, Go.Proofs.Tryz.func451, rfl⟩
  · exact .inr ⟨_, Go.Proofs.Tryz.func452, rfl⟩
  · exact .inr ⟨_, Go.Proofs.Tryz.func453, rfl⟩
  · exact .inr ⟨_, Go.Proofs.Tryz.func454, rfl⟩
  · exact .inr ⟨_, Go.Proofs.Tryz.func455, rfl⟩
  · exact .inr ⟨_, Go.Proofs.Tryz.func456, rfl⟩
  · exact .inr ⟨_, Go.Proofs.Tryz.func457, rfl⟩
  · exact .inr ⟨_, Go.Proofs.Tryz.func458, rfl⟩
  · exact .inr ⟨_, Go.Proofs.Tryz.func459, rfl⟩
  · exact .inr ⟨_, Go.Proofs.Tryz.func460, rfl⟩
  · exact .inr ⟨_, Go.Proofs.Tryz.func461, rfl⟩
  · exact .inr ⟨_, Go.Proofs.Tryz.func462, rfl⟩
  · exact .inr ⟨_, Go.Proofs.Tryz.func463, rfl⟩
  · exact .inr ⟨_, Go.Proofs.Tryz.func464, rfl⟩
  · exact .inr ⟨_, Go.Proofs.Tryz.func465, rfl⟩
  · exact .inr ⟨_, Go.Proofs.Tryz.func466, rfl⟩
  · exact .inr ⟨_, Go.Proofs.Tryz.func467, rfl⟩
  · exact .inr ⟨_, Go.Proofs.Tryz.func468, rfl⟩
  · exact .inr ⟨_, Go.Proofs.Tryz.func469, rfl⟩
  · exact .inr ⟨_, Go.Proofs.Tryz.func470, rfl⟩
  · exact .inr ⟨_, Go.Proofs.Tryz.func471, rfl⟩
  · exact .inr ⟨_, Go.Proofs.Tryz.func472, rfl⟩
  · exact .inr ⟨_, Go.Proofs.Tryz.func473, rfl⟩
  · exact .inr ⟨_, Go.Proofs.Tryz.func474, rfl⟩
  · exact .inr ⟨_, Go.Proofs.Tryz.func475, rfl⟩
  · exact .inr ⟨_, Go.Proofs.Tryz.func476, rfl⟩
  · exact .inr ⟨_, Go.Proofs.Tryz.func477, rfl⟩
  · exact .inr ⟨_, Go.Proofs.Tryz.func478, rfl⟩
  · exact .inr ⟨_, Go.Proofs.Tryz.func479, rfl⟩
theorem ft_ok480 (f : Nat) (h1 : 480 ≤ f) (h2 : f < 512) : ft f = .bad ∨ ∃ fn, Go.Proofs.Tryz.prog.funcs[f]? = some fn ∧ ft f = cFn Go.Proofs.Tryz.prog fn := by
  have h : f = 480 ∨ f = 481 ∨ f = 482 ∨ f = 483 ∨ f = 484 ∨ f = 485 ∨ f = 486 ∨ f = 487 ∨ f = 488 ∨ f = 489 ∨ f = 490 ∨ f = 491 ∨ f = 492 ∨ f = 493 ∨ f = 494 ∨ f = 495 ∨ f = 496 ∨ f = 497 ∨ f = 498 ∨ f = 499 ∨ f = 500 ∨ f = 501 ∨ f = 502 ∨ f = 503 ∨ f = 504 ∨ f = 505 ∨ f = 506 ∨ f = 507 ∨ f = 508 ∨ f = 509 ∨ f = 510 ∨ f = 511 := by omega
  rcases h with rfl | rfl | rfl | rfl | rfl | rfl | rfl | rfl | rfl | rfl | rfl | rfl | rfl | rfl | rfl | rfl | rfl | rfl | rfl | rfl | rfl | rfl | rfl | rfl | rfl | rfl | rfl | rfl | rfl | rfl | rfl | rfl
  · exact .inr ⟨_, Go.Proofs.Tryz.func480, rfl⟩
  · exact .inr ⟨_, Go.Proofs.Tryz.func481, rfl⟩
  · exact .inr ⟨_, Go.Proofs.Tryz.func482, rfl⟩
  · exact .inr ⟨_, Go.Proofs.Tryz.func483, rfl⟩
  · exact .inr ⟨_, Go.Proofs.Tryz.func484, rfl⟩
  · exact .inr ⟨_, Go.Proofs.Tryz.func485, rfl⟩
  · exact .inr ⟨_, Go.Proofs.Tryz.func486, rfl⟩
  · exact .inr ⟨_, Go.Proofs.Tryz.func487, rfl⟩
  · exact .inr ⟨_, Go.Proofs.Tryz.func488, rfl⟩
  · exact .inr ⟨_, Go.Proofs.Tryz.func489, rfl⟩
  · exact .inr ⟨_, Go.Proofs.Tryz.func490, rfl⟩
  · exact .inr ⟨_, Go.Proofs.Tryz.func491, rfl⟩
  · exact .inr ⟨_, Go.Proofs.Tryz.func492, rfl⟩
  · exact .inr ⟨_, Go.Proofs.Tryz.func493, rfl⟩
  · exact .inr ⟨_, Go.Proofs.Tryz.func494, rfl⟩
  · exact .inr ⟨_, Go.Proofs.Tryz.func495, rfl⟩
  · exact .inr ⟨_, Go.Proofs.Tryz.func496, rfl⟩
  · exact .inr ⟨_, Go.Proofs.Tryz.func497, rfl⟩
  · exact .inr ⟨_, Go.Proofs.Tryz.func498, rfl⟩
  · exact .inr ⟨_, Go.Proofs.Tryz.func499, rfl⟩
  · exact .inr ⟨_, Go.Proofs.Tryz.func500, rfl⟩
  · exact .inr ⟨_, Go.Proofs.Tryz.func501, rfl⟩
  · exact .inr ⟨_, Go.Proofs.Tryz.func502, rfl⟩
  · exact .inr ⟨_, Go.Proofs.Tryz.func503, rfl⟩
  · exact .inr ⟨_, Go.Proofs.Tryz.func504, rfl⟩
  · exact .inr ⟨_, Go.Proofs.Tryz.func505, rfl⟩
  · exact .inr ⟨_, Go.Proofs.Tryz.func506, rfl⟩
  · exact .inr ⟨_, Go.Proofs.Tryz.func507, rfl⟩
  · exact .inr ⟨_, Go.Proofs.Tryz.func508, rfl⟩
  · exact .inr ⟨_, Go.Proofs.Tryz.func509, rfl⟩
  · exact .inr ⟨_, Go.Proofs.Tryz.func510, rfl⟩
  · exact .inr ⟨_, Go.Proofs.Tryz.func511, rfl⟩
theorem ft_ok512 (f : Nat) (h1 : 512 ≤ f) (h2 : f < 544) : ft f = .bad ∨ ∃ fn, Go.Proofs.Tryz.prog.funcs[f]? = some fn ∧ ft f = cFn Go.Proofs.Tryz.prog fn := by
  have h : f = 512 ∨ f = 513 ∨ f = 514 ∨ f = 515 ∨ f = 516 ∨ f = 517 ∨ f = 518 ∨ f = 519 ∨ f = 520 ∨ f = 521 ∨ f = 522 ∨ f = 523 ∨ f = 524 ∨ f = 525 ∨ f = 526 ∨ f = 527 ∨ f = 528 ∨ f = 529 ∨ f = 530 ∨ f = 531 ∨ f = 532 ∨ f = 533 ∨ f = 534 ∨ f = 535 ∨ f = 536 ∨ f = 537 ∨ f = 538 ∨ f = 539 ∨ f = 540 ∨ f = 541 ∨ f = 542 ∨ f = 543 := by omega
  rcases h with rfl | rfl | rfl | rfl | rfl | rfl | rfl | rfl | rfl | rfl | rfl | rfl | rfl | rfl | rfl | rfl | rfl | rfl | rfl | rfl | rfl | rfl | rfl | rfl | rfl | rfl | rfl | rfl | rfl | rfl | rfl | rfl
  · exact .inr ⟨_, Go.Proofs.Tryz.func512, rfl⟩
  · exact .inr ⟨_, Go.Proofs.Tryz.func513, rfl⟩
  · exact .inr ⟨_, Go.Proofs.Tryz.func514, rfl⟩
  · exact .inr ⟨_, Go.Proofs.Tryz.func515, rfl⟩
  · exact .inr ⟨_, Go.Proofs.Tryz.func516, rfl⟩
  · exact .inr ⟨_, Go.Proofs.Tryz.func517, rfl⟩
  · exact .inr ⟨_, Go.Proofs.Tryz.func518, rfl⟩
  · exact .inr ⟨_, Go.Proofs.Tryz.func519, rfl⟩
  · exact .inr ⟨_, Go.Proofs.Tryz.func520, rfl⟩
  · exact .inr ⟨_, Go.Proofs.Tryz.func521, rfl⟩
  · exact .inr ⟨_, Go.Proofs.Tryz.func522, rfl⟩
  · exact .inr ⟨_, Go.Proofs.Tryz.func523, rfl⟩
  · exact .inr ⟨_, Go.Proofs.Tryz.func524, rfl⟩
  · exact .inr ⟨_, Go.Proofs.Tryz.func525, rfl⟩
  · exact .inr ⟨_, Go.Proofs.Tryz.func526, rfl⟩
  · exact .inr ⟨_, Go.Proofs.Tryz.func527, rfl⟩
  · exact .inr ⟨_, Go.Proofs.Tryz.func528, rfl⟩
  · exact .inr ⟨_, Go.Proofs.Tryz.func529, rfl⟩
  · exact .inr ⟨_, Go.Proofs.Tryz.func530, rfl⟩
  · exact .inr ⟨_, Go.Proofs.Tryz.func531, rfl⟩
  · exact .inr ⟨_, Go.Proofs.Tryz.func532, rfl⟩
  · exact .inr ⟨_, Go.Proofs.Tryz.func533, rfl⟩
  · exact .inr ⟨_, Go.Proofs.Tryz.func534, rfl⟩
  · exact .inr ⟨_, Go.Proofs.Tryz.func535, rfl⟩
  · exact .inr ⟨_, Go.Proofs.Tryz.func536, rfl⟩
  · exact .inr ⟨_, Go.Proofs.Tryz.func537, rfl⟩
  · exact .inr ⟨_, Go.Proofs.Tryz.func538, rfl⟩
  · exact .inr ⟨_, Go.Proofs.Tryz.func539, rfl⟩
  · exact .inr ⟨_, Go.Proofs.Tryz.func540, rfl⟩
  · exact .inr ⟨_, Go.Proofs.Tryz.func541, rfl⟩
  · exact .inr ⟨_, Go.Proofs.Tryz.func542, rfl⟩
  · exact .inr ⟨_, Go.Proofs.Tryz.func543, rfl⟩
theorem ft_ok544 (f : Nat) (h1 : 544 ≤ f) (h2 : f < 571) : ft f = .bad ∨ ∃ fn, Go.Proofs.Tryz.prog.funcs[f]? = some fn ∧ ft f = cFn Go.Proofs.Tryz.prog fn := by
  have h : f = 544 ∨ f = 545 ∨ f = 546 ∨ f = 547 ∨ f = 548 ∨ f = 549 ∨ f = 550 ∨ f = 551 ∨ f = 552 ∨ f = 553 ∨ f = 554 ∨ f = 555 ∨ f = 556 ∨ f = 557 ∨ f = 558 ∨ f = 559 ∨ f = 560 ∨ f = 561 ∨ f = 562 ∨ f = 563 ∨ f = 564 ∨ f = 565 ∨ f = 566 ∨ f = 567 ∨ f = 568 ∨ f = 569 ∨ f = 570 := by omega
  rcases h with rfl | rfl | rfl | rfl | rfl | rfl | rfl | rfl | rfl | rfl | rfl | rfl | rfl | rfl | rfl | rfl | rfl | rfl | rfl | rfl | rfl | rfl | rfl | rfl | rfl | rfl | rfl
  · exact .inr ⟨_, Go.Proofs.Tryz.func544, rfl⟩
  · exact .inr ⟨_, Go.Proofs.Tryz.func545, rfl⟩
  · exact .inr ⟨_, Go.Proofs.Tryz.func546, rfl⟩
  · exact .inr ⟨_, Go.Proofs.Tryz.func547, rfl⟩
  · exact .inr ⟨_, Go.Proofs.Tryz.func548, rfl⟩
  · exact .inr ⟨_, Go.Proofs.Tryz.func549, rfl⟩
  · exact .inr ⟨_, Go.Proofs.Tryz.func550, rfl⟩
  · exact .inr ⟨_, Go.Proofs.Tryz.func551, rfl⟩
  · exact .inr ⟨_, Go.Proofs.Tryz.func552, rfl⟩
  · exact .inr ⟨_, Go.Proofs.Tryz.func553, rfl⟩
  · exact .inr ⟨_, Go.Proofs.Tryz.func554, rfl⟩
  · exact .inr ⟨_, Go.Proofs.Tryz.func555, rfl⟩
  · exact .inr ⟨_, Go.Proofs.Tryz.func556, rfl⟩
  · exact .inr ⟨_, Go.Proofs.Tryz.func557, rfl⟩
  · exact .inr ⟨_, Go.Proofs.Tryz.func558, rfl⟩
  · exact .inr ⟨_, Go.Proofs.Tryz.func559, rfl⟩
  · exact .inr ⟨_, Go.Proofs.Tryz.func560, rfl⟩
  · exact .inr ⟨_, Go.Proofs.Tryz.func561, rfl⟩
  · exact .inr ⟨_, Go.Proofs.Tryz.func562, rfl⟩
  · exact .inr ⟨_, Go.Proofs.Tryz.func563, rfl⟩
  · exact .inr ⟨_, Go.Proofs.Tryz.func564, rfl⟩
  · exact .inr ⟨_, Go.Proofs.Tryz.func565, rfl⟩
  · exact .inr ⟨_, Go.Proofs.Tryz.func566, rfl⟩
  · exact .inr ⟨_, Go.Proofs.Tryz.func567, rfl⟩
  · exact .inr ⟨_, Go.Proofs.Tryz.func568, rfl⟩
  · exact .inr ⟨_, Go.Proofs.Tryz.func569, rfl⟩
  · exact .inr ⟨_, Go.Proofs.Tryz.func570, rfl⟩
theorem ft_big (f : Nat) (h : 571 ≤ f) : ft f = .bad := by
  have hb : Nat.ble f 570 = false := by
    cases hq : Nat.ble f 570 with
    | false => rfl
    | true => have := Nat.le_of_ble_eq_true hq; omega
  unfold ft
  rw [hb]
  rfl
theorem ftOK : FtOK Go.Proofs.Tryz.prog ft := fun f => by
  by_cases h32 : f < 32
  · exact ft_ok0 f (by omega) h32
  by_cases h64 : f < 64
  · exact ft_ok32 f (by omega) h64
  by_cases h96 : f < 96
  · exact ft_ok64 f (by omega) h96
  by_cases h128 : f < 128
  · exact ft_ok96 f (by omega) h128
  by_cases h160 : f < 160
  · exact ft_ok128 f (by omega) h160
  by_cases h192 : f < 192
  · exact ft_ok160 f (by omega) h192
  by_cases h224 : f < 224
  · exact ft_ok192 f (by omega) h224
  by_cases h256 : f < 256
  · exact ft_ok224 f (by omega) h256
  by_cases h288 : f < 288
  · exact ft_ok256 f (by omega) h288
  by_cases h320 : f < 320
  · exact ft_ok288 f (by omega) h320
  by_cases h352 : f < 352
  · exact ft_ok320 f (by omega) h352
  by_cases h384 : f < 384
  · exact ft_ok352 f (by omega) h384
  by_cases h416 : f < 416
  · exact ft_ok384 f (by omega) h416
  by_cases h448 : f < 448
  · exact ft_ok416 f (by omega) h448
  by_cases h480 : f < 480
  · exact ft_ok448 f (by omega) h480
  by_cases h512 : f < 512
  · exact ft_ok480 f (by omega) h512
  by_cases h544 : f < 544
  · exact ft_ok512 f (by omega) h544
  by_cases h571 : f < 571
  · exact ft_ok544 f (by omega) h571
  · exact .inl (ft_big f (by omega))
end Go.Exe.Tryz
