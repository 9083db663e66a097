/- RateKinds: the inner calls are known; the law's runs over them; all together. -/
import Derived.Test.YteilmpcdlpibgaaGreatDoorExeStat
import Derived.Test.YteilmpcdlpibgaaGreatDoorRkRunK
import Derived.Test.YteilmpcdlpibgaaGreatDoorRkSubA
import Derived.Test.YteilmpcdlpibgaaGreatDoorRkSubB
import Derived.Test.YteilmpcdlpibgaaGreatDoorRkSubC
import Derived.Test.YteilmpcdlpibgaaGreatDoorRkSubD
import Derived.Test.YteilmpcdlpibgaaGreatDoorRkSubE
import Derived.Test.YteilmpcdlpibgaaGreatDoorRkSubF
import Derived.Test.YteilmpcdlpibgaaGreatDoorRkSubG
import Derived.Test.YteilmpcdlpibgaaGreatDoorRkSubH
import Derived.Test.YteilmpcdlpibgaaGreatDoorRkSubI
import Derived.Test.YteilmpcdlpibgaaGreatDoorRkSubJ
import Derived.Test.YteilmpcdlpibgaaGreatDoorRkSubK
import Derived.Test.YteilmpcdlpibgaaGreatDoorRkSubL
import Derived.Test.YteilmpcdlpibgaaGreatDoorRkSubM
import Derived.Test.YteilmpcdlpibgaaGreatDoorRkSubN
import Derived.Test.YteilmpcdlpibgaaGreatDoorRkSubO
import Derived.Test.YteilmpcdlpibgaaGreatDoorRkSubP
import Derived.Test.YteilmpcdlpibgaaGreatDoorRkRunA
set_option linter.unusedVariables false
set_option linter.unusedSimpArgs false
set_option maxRecDepth 100000
set_option maxHeartbeats 4000000
namespace Go.Exe.Tryz
open Go Go.Exe
theorem rk_base [Sig] : FtOK Go.Proofs.Tryz.prog (gl3 0 2 3) rk_ft := ftK_ok ftOK (known_of stat ftOK rk_awake)
theorem rks_ke0 [Sig] : KnownE Go.Proofs.Tryz.prog (gl3 0 2 3) 194 rks_k0 := (knownE_cons rk_k0 (knownE_cons rk_k1 (knownE_cons rk_k2 (knownE_cons rk_k3 (knownE_cons rk_k4 knownE_nil)))))
theorem rks_kn0 [Sig] : KnownL Go.Proofs.Tryz.prog (gl3 0 2 3) 6 rks_l0 := chain_known stat (ftE_ok rk_base rks_ke0) rks_lot0 (by kernel_rfl)
theorem rks_ke1 [Sig] : KnownE Go.Proofs.Tryz.prog (gl3 0 2 3) 194 rks_k1 := (knownE_cons rk_k5 (knownE_cons rk_k6 (knownE_cons rk_k7 (knownE_cons rk_k8 (knownE_cons rk_k9 knownE_nil)))))
theorem rks_kn1 [Sig] : KnownL Go.Proofs.Tryz.prog (gl3 0 2 3) 6 rks_l1 := chain_known stat (ftE_ok rk_base rks_ke1) rks_lot1 (by kernel_rfl)
theorem rks_ke2 [Sig] : KnownE Go.Proofs.Tryz.prog (gl3 0 2 3) 194 rks_k2 := (knownE_cons rk_k10 (knownE_cons rk_k11 (knownE_cons rk_k12 (knownE_cons rk_k13 (knownE_cons rk_k14 knownE_nil)))))
theorem rks_kn2 [Sig] : KnownL Go.Proofs.Tryz.prog (gl3 0 2 3) 6 rks_l2 := chain_known stat (ftE_ok rk_base rks_ke2) rks_lot2 (by kernel_rfl)
theorem rks_ke3 [Sig] : KnownE Go.Proofs.Tryz.prog (gl3 0 2 3) 194 rks_k3 := (knownE_cons rk_k15 (knownE_cons rk_k16 (knownE_cons rk_k17 (knownE_cons rk_k18 (knownE_cons rk_k19 knownE_nil)))))
theorem rks_kn3 [Sig] : KnownL Go.Proofs.Tryz.prog (gl3 0 2 3) 6 rks_l3 := chain_known stat (ftE_ok rk_base rks_ke3) rks_lot3 (by kernel_rfl)
theorem rks_ke4 [Sig] : KnownE Go.Proofs.Tryz.prog (gl3 0 2 3) 194 rks_k4 := (knownE_cons rk_k20 (knownE_cons rk_k21 (knownE_cons rk_k22 (knownE_cons rk_k23 (knownE_cons rk_k24 knownE_nil)))))
theorem rks_kn4 [Sig] : KnownL Go.Proofs.Tryz.prog (gl3 0 2 3) 6 rks_l4 := chain_known stat (ftE_ok rk_base rks_ke4) rks_lot4 (by kernel_rfl)
theorem rks_ke5 [Sig] : KnownE Go.Proofs.Tryz.prog (gl3 0 2 3) 194 rks_k5 := (knownE_cons rk_k25 (knownE_cons rk_k26 (knownE_cons rk_k27 (knownE_cons rk_k28 (knownE_cons rk_k29 knownE_nil)))))
theorem rks_kn5 [Sig] : KnownL Go.Proofs.Tryz.prog (gl3 0 2 3) 6 rks_l5 := chain_known stat (ftE_ok rk_base rks_ke5) rks_lot5 (by kernel_rfl)
theorem rks_ke6 [Sig] : KnownE Go.Proofs.Tryz.prog (gl3 0 2 3) 194 rks_k6 := (knownE_cons rk_k30 (knownE_cons rk_k31 (knownE_cons rk_k32 (knownE_cons rk_k33 (knownE_cons rk_k34 knownE_nil)))))
theorem rks_kn6 [Sig] : KnownL Go.Proofs.Tryz.prog (gl3 0 2 3) 6 rks_l6 := chain_known stat (ftE_ok rk_base rks_ke6) rks_lot6 (by kernel_rfl)
theorem rks_ke7 [Sig] : KnownE Go.Proofs.Tryz.prog (gl3 0 2 3) 194 rks_k7 := (knownE_cons rk_k35 (knownE_cons rk_k36 (knownE_cons rk_k37 (knownE_cons rk_k38 (knownE_cons rk_k39 knownE_nil)))))
theorem rks_kn7 [Sig] : KnownL Go.Proofs.Tryz.prog (gl3 0 2 3) 6 rks_l7 := chain_known stat (ftE_ok rk_base rks_ke7) rks_lot7 (by kernel_rfl)
theorem rks_ke8 [Sig] : KnownE Go.Proofs.Tryz.prog (gl3 0 2 3) 194 rks_k8 := (knownE_cons rk_k40 (knownE_cons rk_k41 (knownE_cons rk_k42 (knownE_cons rk_k43 (knownE_cons rk_k44 knownE_nil)))))
theorem rks_kn8 [Sig] : KnownL Go.Proofs.Tryz.prog (gl3 0 2 3) 6 rks_l8 := chain_known stat (ftE_ok rk_base rks_ke8) rks_lot8 (by kernel_rfl)
theorem rks_ke9 [Sig] : KnownE Go.Proofs.Tryz.prog (gl3 0 2 3) 194 rks_k9 := (knownE_cons rk_k45 (knownE_cons rk_k46 (knownE_cons rk_k47 (knownE_cons rk_k48 (knownE_cons rk_k49 knownE_nil)))))
theorem rks_kn9 [Sig] : KnownL Go.Proofs.Tryz.prog (gl3 0 2 3) 6 rks_l9 := chain_known stat (ftE_ok rk_base rks_ke9) rks_lot9 (by kernel_rfl)
theorem rks_ke10 [Sig] : KnownE Go.Proofs.Tryz.prog (gl3 0 2 3) 194 rks_k10 := (knownE_cons rk_k50 (knownE_cons rk_k51 (knownE_cons rk_k52 (knownE_cons rk_k53 (knownE_cons rk_k54 knownE_nil)))))
theorem rks_kn10 [Sig] : KnownL Go.Proofs.Tryz.prog (gl3 0 2 3) 6 rks_l10 := chain_known stat (ftE_ok rk_base rks_ke10) rks_lot10 (by kernel_rfl)
theorem rks_ke11 [Sig] : KnownE Go.Proofs.Tryz.prog (gl3 0 2 3) 194 rks_k11 := (knownE_cons rk_k55 (knownE_cons rk_k56 (knownE_cons rk_k57 (knownE_cons rk_k58 (knownE_cons rk_k59 knownE_nil)))))
theorem rks_kn11 [Sig] : KnownL Go.Proofs.Tryz.prog (gl3 0 2 3) 6 rks_l11 := chain_known stat (ftE_ok rk_base rks_ke11) rks_lot11 (by kernel_rfl)
theorem rks_ke12 [Sig] : KnownE Go.Proofs.Tryz.prog (gl3 0 2 3) 194 rks_k12 := (knownE_cons rk_k60 (knownE_cons rk_k61 (knownE_cons rk_k62 (knownE_cons rk_k63 (knownE_cons rk_k64 knownE_nil)))))
theorem rks_kn12 [Sig] : KnownL Go.Proofs.Tryz.prog (gl3 0 2 3) 6 rks_l12 := chain_known stat (ftE_ok rk_base rks_ke12) rks_lot12 (by kernel_rfl)
theorem rks_ke13 [Sig] : KnownE Go.Proofs.Tryz.prog (gl3 0 2 3) 194 rks_k13 := (knownE_cons rk_k65 (knownE_cons rk_k66 (knownE_cons rk_k67 (knownE_cons rk_k68 (knownE_cons rk_k69 knownE_nil)))))
theorem rks_kn13 [Sig] : KnownL Go.Proofs.Tryz.prog (gl3 0 2 3) 6 rks_l13 := chain_known stat (ftE_ok rk_base rks_ke13) rks_lot13 (by kernel_rfl)
theorem rks_ke14 [Sig] : KnownE Go.Proofs.Tryz.prog (gl3 0 2 3) 194 rks_k14 := (knownE_cons rk_k70 (knownE_cons rk_k71 (knownE_cons rk_k72 (knownE_cons rk_k73 (knownE_cons rk_k74 knownE_nil)))))
theorem rks_kn14 [Sig] : KnownL Go.Proofs.Tryz.prog (gl3 0 2 3) 6 rks_l14 := chain_known stat (ftE_ok rk_base rks_ke14) rks_lot14 (by kernel_rfl)
theorem rks_ke15 [Sig] : KnownE Go.Proofs.Tryz.prog (gl3 0 2 3) 194 rks_k15 := (knownE_cons rk_k75 (knownE_cons rk_k76 (knownE_cons rk_k77 (knownE_cons rk_k78 (knownE_cons rk_k79 knownE_nil)))))
theorem rks_kn15 [Sig] : KnownL Go.Proofs.Tryz.prog (gl3 0 2 3) 6 rks_l15 := chain_known stat (ftE_ok rk_base rks_ke15) rks_lot15 (by kernel_rfl)
theorem rks_ke16 [Sig] : KnownE Go.Proofs.Tryz.prog (gl3 0 2 3) 194 rks_k16 := (knownE_cons rk_k80 (knownE_cons rk_k81 (knownE_cons rk_k82 (knownE_cons rk_k83 (knownE_cons rk_k84 knownE_nil)))))
theorem rks_kn16 [Sig] : KnownL Go.Proofs.Tryz.prog (gl3 0 2 3) 6 rks_l16 := chain_known stat (ftE_ok rk_base rks_ke16) rks_lot16 (by kernel_rfl)
theorem rks_ke17 [Sig] : KnownE Go.Proofs.Tryz.prog (gl3 0 2 3) 194 rks_k17 := (knownE_cons rk_k85 (knownE_cons rk_k86 (knownE_cons rk_k87 (knownE_cons rk_k88 (knownE_cons rk_k89 knownE_nil)))))
theorem rks_kn17 [Sig] : KnownL Go.Proofs.Tryz.prog (gl3 0 2 3) 6 rks_l17 := chain_known stat (ftE_ok rk_base rks_ke17) rks_lot17 (by kernel_rfl)
theorem rks_ke18 [Sig] : KnownE Go.Proofs.Tryz.prog (gl3 0 2 3) 194 rks_k18 := (knownE_cons rk_k90 (knownE_cons rk_k91 (knownE_cons rk_k92 (knownE_cons rk_k93 (knownE_cons rk_k94 knownE_nil)))))
theorem rks_kn18 [Sig] : KnownL Go.Proofs.Tryz.prog (gl3 0 2 3) 6 rks_l18 := chain_known stat (ftE_ok rk_base rks_ke18) rks_lot18 (by kernel_rfl)
theorem rks_ke19 [Sig] : KnownE Go.Proofs.Tryz.prog (gl3 0 2 3) 194 rks_k19 := (knownE_cons rk_k95 (knownE_cons rk_k96 (knownE_cons rk_k97 (knownE_cons rk_k98 (knownE_cons rk_k99 knownE_nil)))))
theorem rks_kn19 [Sig] : KnownL Go.Proofs.Tryz.prog (gl3 0 2 3) 6 rks_l19 := chain_known stat (ftE_ok rk_base rks_ke19) rks_lot19 (by kernel_rfl)
theorem rks_ke20 [Sig] : KnownE Go.Proofs.Tryz.prog (gl3 0 2 3) 194 rks_k20 := (knownE_cons rk_k100 (knownE_cons rk_k101 (knownE_cons rk_k102 (knownE_cons rk_k103 (knownE_cons rk_k104 knownE_nil)))))
theorem rks_kn20 [Sig] : KnownL Go.Proofs.Tryz.prog (gl3 0 2 3) 6 rks_l20 := chain_known stat (ftE_ok rk_base rks_ke20) rks_lot20 (by kernel_rfl)
theorem rks_ke21 [Sig] : KnownE Go.Proofs.Tryz.prog (gl3 0 2 3) 194 rks_k21 := (knownE_cons rk_k105 (knownE_cons rk_k106 (knownE_cons rk_k107 (knownE_cons rk_k108 (knownE_cons rk_k109 knownE_nil)))))
theorem rks_kn21 [Sig] : KnownL Go.Proofs.Tryz.prog (gl3 0 2 3) 6 rks_l21 := chain_known stat (ftE_ok rk_base rks_ke21) rks_lot21 (by kernel_rfl)
theorem rks_ke22 [Sig] : KnownE Go.Proofs.Tryz.prog (gl3 0 2 3) 194 rks_k22 := (knownE_cons rk_k110 (knownE_cons rk_k111 (knownE_cons rk_k112 (knownE_cons rk_k113 (knownE_cons rk_k114 knownE_nil)))))
theorem rks_kn22 [Sig] : KnownL Go.Proofs.Tryz.prog (gl3 0 2 3) 6 rks_l22 := chain_known stat (ftE_ok rk_base rks_ke22) rks_lot22 (by kernel_rfl)
theorem rks_ke23 [Sig] : KnownE Go.Proofs.Tryz.prog (gl3 0 2 3) 194 rks_k23 := (knownE_cons rk_k115 (knownE_cons rk_k116 (knownE_cons rk_k117 (knownE_cons rk_k118 (knownE_cons rk_k119 knownE_nil)))))
theorem rks_kn23 [Sig] : KnownL Go.Proofs.Tryz.prog (gl3 0 2 3) 6 rks_l23 := chain_known stat (ftE_ok rk_base rks_ke23) rks_lot23 (by kernel_rfl)
theorem rks_ke24 [Sig] : KnownE Go.Proofs.Tryz.prog (gl3 0 2 3) 194 rks_k24 := (knownE_cons rk_k120 (knownE_cons rk_k121 (knownE_cons rk_k122 (knownE_cons rk_k123 (knownE_cons rk_k124 knownE_nil)))))
theorem rks_kn24 [Sig] : KnownL Go.Proofs.Tryz.prog (gl3 0 2 3) 6 rks_l24 := chain_known stat (ftE_ok rk_base rks_ke24) rks_lot24 (by kernel_rfl)
theorem rks_ke25 [Sig] : KnownE Go.Proofs.Tryz.prog (gl3 0 2 3) 194 rks_k25 := (knownE_cons rk_k125 (knownE_cons rk_k126 (knownE_cons rk_k127 (knownE_cons rk_k128 (knownE_cons rk_k129 knownE_nil)))))
theorem rks_kn25 [Sig] : KnownL Go.Proofs.Tryz.prog (gl3 0 2 3) 6 rks_l25 := chain_known stat (ftE_ok rk_base rks_ke25) rks_lot25 (by kernel_rfl)
theorem rks_ke26 [Sig] : KnownE Go.Proofs.Tryz.prog (gl3 0 2 3) 194 rks_k26 := (knownE_cons rk_k130 (knownE_cons rk_k131 (knownE_cons rk_k132 (knownE_cons rk_k133 (knownE_cons rk_k134 knownE_nil)))))
theorem rks_kn26 [Sig] : KnownL Go.Proofs.Tryz.prog (gl3 0 2 3) 6 rks_l26 := chain_known stat (ftE_ok rk_base rks_ke26) rks_lot26 (by kernel_rfl)
theorem rks_ke27 [Sig] : KnownE Go.Proofs.Tryz.prog (gl3 0 2 3) 194 rks_k27 := (knownE_cons rk_k135 (knownE_cons rk_k136 (knownE_cons rk_k137 (knownE_cons rk_k138 (knownE_cons rk_k139 knownE_nil)))))
theorem rks_kn27 [Sig] : KnownL Go.Proofs.Tryz.prog (gl3 0 2 3) 6 rks_l27 := chain_known stat (ftE_ok rk_base rks_ke27) rks_lot27 (by kernel_rfl)
theorem rks_ke28 [Sig] : KnownE Go.Proofs.Tryz.prog (gl3 0 2 3) 194 rks_k28 := (knownE_cons rk_k140 (knownE_cons rk_k141 (knownE_cons rk_k142 (knownE_cons rk_k143 (knownE_cons rk_k144 knownE_nil)))))
theorem rks_kn28 [Sig] : KnownL Go.Proofs.Tryz.prog (gl3 0 2 3) 6 rks_l28 := chain_known stat (ftE_ok rk_base rks_ke28) rks_lot28 (by kernel_rfl)
theorem rks_ke29 [Sig] : KnownE Go.Proofs.Tryz.prog (gl3 0 2 3) 194 rks_k29 := (knownE_cons rk_k145 (knownE_cons rk_k146 (knownE_cons rk_k147 (knownE_cons rk_k148 (knownE_cons rk_k149 knownE_nil)))))
theorem rks_kn29 [Sig] : KnownL Go.Proofs.Tryz.prog (gl3 0 2 3) 6 rks_l29 := chain_known stat (ftE_ok rk_base rks_ke29) rks_lot29 (by kernel_rfl)
theorem rks_ke30 [Sig] : KnownE Go.Proofs.Tryz.prog (gl3 0 2 3) 194 rks_k30 := (knownE_cons rk_k150 (knownE_cons rk_k151 (knownE_cons rk_k152 (knownE_cons rk_k153 (knownE_cons rk_k154 knownE_nil)))))
theorem rks_kn30 [Sig] : KnownL Go.Proofs.Tryz.prog (gl3 0 2 3) 6 rks_l30 := chain_known stat (ftE_ok rk_base rks_ke30) rks_lot30 (by kernel_rfl)
theorem rks_ke31 [Sig] : KnownE Go.Proofs.Tryz.prog (gl3 0 2 3) 194 rks_k31 := (knownE_cons rk_k155 (knownE_cons rk_k156 (knownE_cons rk_k157 (knownE_cons rk_k158 (knownE_cons rk_k159 knownE_nil)))))
theorem rks_kn31 [Sig] : KnownL Go.Proofs.Tryz.prog (gl3 0 2 3) 6 rks_l31 := chain_known stat (ftE_ok rk_base rks_ke31) rks_lot31 (by kernel_rfl)
theorem rks_ke32 [Sig] : KnownE Go.Proofs.Tryz.prog (gl3 0 2 3) 194 rks_k32 := (knownE_cons rk_k160 (knownE_cons rk_k161 (knownE_cons rk_k162 (knownE_cons rk_k163 (knownE_cons rk_k164 knownE_nil)))))
theorem rks_kn32 [Sig] : KnownL Go.Proofs.Tryz.prog (gl3 0 2 3) 6 rks_l32 := chain_known stat (ftE_ok rk_base rks_ke32) rks_lot32 (by kernel_rfl)
theorem rks_ke33 [Sig] : KnownE Go.Proofs.Tryz.prog (gl3 0 2 3) 194 rks_k33 := (knownE_cons rk_k165 (knownE_cons rk_k166 (knownE_cons rk_k167 (knownE_cons rk_k168 (knownE_cons rk_k169 knownE_nil)))))
theorem rks_kn33 [Sig] : KnownL Go.Proofs.Tryz.prog (gl3 0 2 3) 6 rks_l33 := chain_known stat (ftE_ok rk_base rks_ke33) rks_lot33 (by kernel_rfl)
theorem rks_ke34 [Sig] : KnownE Go.Proofs.Tryz.prog (gl3 0 2 3) 194 rks_k34 := (knownE_cons rk_k170 (knownE_cons rk_k171 (knownE_cons rk_k172 (knownE_cons rk_k173 (knownE_cons rk_k174 knownE_nil)))))
theorem rks_kn34 [Sig] : KnownL Go.Proofs.Tryz.prog (gl3 0 2 3) 6 rks_l34 := chain_known stat (ftE_ok rk_base rks_ke34) rks_lot34 (by kernel_rfl)
theorem rks_ke35 [Sig] : KnownE Go.Proofs.Tryz.prog (gl3 0 2 3) 194 rks_k35 := (knownE_cons rk_k175 (knownE_cons rk_k176 (knownE_cons rk_k177 (knownE_cons rk_k178 (knownE_cons rk_k179 knownE_nil)))))
theorem rks_kn35 [Sig] : KnownL Go.Proofs.Tryz.prog (gl3 0 2 3) 6 rks_l35 := chain_known stat (ftE_ok rk_base rks_ke35) rks_lot35 (by kernel_rfl)
theorem rks_ke36 [Sig] : KnownE Go.Proofs.Tryz.prog (gl3 0 2 3) 194 rks_k36 := (knownE_cons rk_k180 (knownE_cons rk_k181 (knownE_cons rk_k182 (knownE_cons rk_k183 (knownE_cons rk_k184 knownE_nil)))))
theorem rks_kn36 [Sig] : KnownL Go.Proofs.Tryz.prog (gl3 0 2 3) 6 rks_l36 := chain_known stat (ftE_ok rk_base rks_ke36) rks_lot36 (by kernel_rfl)
theorem rks_ke37 [Sig] : KnownE Go.Proofs.Tryz.prog (gl3 0 2 3) 194 rks_k37 := (knownE_cons rk_k185 (knownE_cons rk_k186 (knownE_cons rk_k187 (knownE_cons rk_k188 (knownE_cons rk_k189 knownE_nil)))))
theorem rks_kn37 [Sig] : KnownL Go.Proofs.Tryz.prog (gl3 0 2 3) 6 rks_l37 := chain_known stat (ftE_ok rk_base rks_ke37) rks_lot37 (by kernel_rfl)
theorem rks_ke38 [Sig] : KnownE Go.Proofs.Tryz.prog (gl3 0 2 3) 194 rks_k38 := (knownE_cons rk_k190 (knownE_cons rk_k191 (knownE_cons rk_k192 (knownE_cons rk_k193 (knownE_cons rk_k194 knownE_nil)))))
theorem rks_kn38 [Sig] : KnownL Go.Proofs.Tryz.prog (gl3 0 2 3) 6 rks_l38 := chain_known stat (ftE_ok rk_base rks_ke38) rks_lot38 (by kernel_rfl)
theorem rks_ke39 [Sig] : KnownE Go.Proofs.Tryz.prog (gl3 0 2 3) 194 rks_k39 := (knownE_cons rk_k195 (knownE_cons rk_k196 (knownE_cons rk_k197 (knownE_cons rk_k198 (knownE_cons rk_k199 knownE_nil)))))
theorem rks_kn39 [Sig] : KnownL Go.Proofs.Tryz.prog (gl3 0 2 3) 6 rks_l39 := chain_known stat (ftE_ok rk_base rks_ke39) rks_lot39 (by kernel_rfl)
theorem rks_ke40 [Sig] : KnownE Go.Proofs.Tryz.prog (gl3 0 2 3) 194 rks_k40 := (knownE_cons rk_k200 (knownE_cons rk_k201 (knownE_cons rk_k202 (knownE_cons rk_k203 (knownE_cons rk_k204 knownE_nil)))))
theorem rks_kn40 [Sig] : KnownL Go.Proofs.Tryz.prog (gl3 0 2 3) 6 rks_l40 := chain_known stat (ftE_ok rk_base rks_ke40) rks_lot40 (by kernel_rfl)
theorem rks_ke41 [Sig] : KnownE Go.Proofs.Tryz.prog (gl3 0 2 3) 194 rks_k41 := (knownE_cons rk_k205 (knownE_cons rk_k206 (knownE_cons rk_k207 (knownE_cons rk_k208 (knownE_cons rk_k209 knownE_nil)))))
theorem rks_kn41 [Sig] : KnownL Go.Proofs.Tryz.prog (gl3 0 2 3) 6 rks_l41 := chain_known stat (ftE_ok rk_base rks_ke41) rks_lot41 (by kernel_rfl)
theorem rks_ke42 [Sig] : KnownE Go.Proofs.Tryz.prog (gl3 0 2 3) 194 rks_k42 := (knownE_cons rk_k210 (knownE_cons rk_k211 (knownE_cons rk_k212 (knownE_cons rk_k213 (knownE_cons rk_k214 knownE_nil)))))
theorem rks_kn42 [Sig] : KnownL Go.Proofs.Tryz.prog (gl3 0 2 3) 6 rks_l42 := chain_known stat (ftE_ok rk_base rks_ke42) rks_lot42 (by kernel_rfl)
theorem rks_ke43 [Sig] : KnownE Go.Proofs.Tryz.prog (gl3 0 2 3) 194 rks_k43 := (knownE_cons rk_k215 (knownE_cons rk_k216 (knownE_cons rk_k217 (knownE_cons rk_k218 (knownE_cons rk_k219 knownE_nil)))))
theorem rks_kn43 [Sig] : KnownL Go.Proofs.Tryz.prog (gl3 0 2 3) 6 rks_l43 := chain_known stat (ftE_ok rk_base rks_ke43) rks_lot43 (by kernel_rfl)
theorem rks_ke44 [Sig] : KnownE Go.Proofs.Tryz.prog (gl3 0 2 3) 194 rks_k44 := (knownE_cons rk_k220 (knownE_cons rk_k221 (knownE_cons rk_k222 (knownE_cons rk_k223 (knownE_cons rk_k224 knownE_nil)))))
theorem rks_kn44 [Sig] : KnownL Go.Proofs.Tryz.prog (gl3 0 2 3) 6 rks_l44 := chain_known stat (ftE_ok rk_base rks_ke44) rks_lot44 (by kernel_rfl)
theorem rks_ke45 [Sig] : KnownE Go.Proofs.Tryz.prog (gl3 0 2 3) 194 rks_k45 := (knownE_cons rk_k225 (knownE_cons rk_k226 (knownE_cons rk_k227 (knownE_cons rk_k228 (knownE_cons rk_k229 knownE_nil)))))
theorem rks_kn45 [Sig] : KnownL Go.Proofs.Tryz.prog (gl3 0 2 3) 6 rks_l45 := chain_known stat (ftE_ok rk_base rks_ke45) rks_lot45 (by kernel_rfl)
theorem rks_ke46 [Sig] : KnownE Go.Proofs.Tryz.prog (gl3 0 2 3) 194 rks_k46 := (knownE_cons rk_k230 (knownE_cons rk_k231 (knownE_cons rk_k232 (knownE_cons rk_k233 (knownE_cons rk_k234 knownE_nil)))))
theorem rks_kn46 [Sig] : KnownL Go.Proofs.Tryz.prog (gl3 0 2 3) 6 rks_l46 := chain_known stat (ftE_ok rk_base rks_ke46) rks_lot46 (by kernel_rfl)
theorem rks_ke47 [Sig] : KnownE Go.Proofs.Tryz.prog (gl3 0 2 3) 194 rks_k47 := (knownE_cons rk_k235 (knownE_cons rk_k236 (knownE_cons rk_k237 (knownE_cons rk_k238 (knownE_cons rk_k239 knownE_nil)))))
theorem rks_kn47 [Sig] : KnownL Go.Proofs.Tryz.prog (gl3 0 2 3) 6 rks_l47 := chain_known stat (ftE_ok rk_base rks_ke47) rks_lot47 (by kernel_rfl)
theorem rks_ke48 [Sig] : KnownE Go.Proofs.Tryz.prog (gl3 0 2 3) 194 rks_k48 := (knownE_cons rk_k240 (knownE_cons rk_k241 (knownE_cons rk_k242 (knownE_cons rk_k243 (knownE_cons rk_k244 knownE_nil)))))
theorem rks_kn48 [Sig] : KnownL Go.Proofs.Tryz.prog (gl3 0 2 3) 6 rks_l48 := chain_known stat (ftE_ok rk_base rks_ke48) rks_lot48 (by kernel_rfl)
theorem rks_ke49 [Sig] : KnownE Go.Proofs.Tryz.prog (gl3 0 2 3) 194 rks_k49 := (knownE_cons rk_k245 (knownE_cons rk_k246 (knownE_cons rk_k247 (knownE_cons rk_k248 (knownE_cons rk_k249 knownE_nil)))))
theorem rks_kn49 [Sig] : KnownL Go.Proofs.Tryz.prog (gl3 0 2 3) 6 rks_l49 := chain_known stat (ftE_ok rk_base rks_ke49) rks_lot49 (by kernel_rfl)
theorem rks_ke50 [Sig] : KnownE Go.Proofs.Tryz.prog (gl3 0 2 3) 194 rks_k50 := (knownE_cons rk_k250 (knownE_cons rk_k251 (knownE_cons rk_k252 (knownE_cons rk_k253 (knownE_cons rk_k254 knownE_nil)))))
theorem rks_kn50 [Sig] : KnownL Go.Proofs.Tryz.prog (gl3 0 2 3) 6 rks_l50 := chain_known stat (ftE_ok rk_base rks_ke50) rks_lot50 (by kernel_rfl)
theorem rks_ke51 [Sig] : KnownE Go.Proofs.Tryz.prog (gl3 0 2 3) 194 rks_k51 := (knownE_cons rk_k255 (knownE_cons rk_k256 (knownE_cons rk_k257 (knownE_cons rk_k258 (knownE_cons rk_k259 knownE_nil)))))
theorem rks_kn51 [Sig] : KnownL Go.Proofs.Tryz.prog (gl3 0 2 3) 6 rks_l51 := chain_known stat (ftE_ok rk_base rks_ke51) rks_lot51 (by kernel_rfl)
theorem rks_ke52 [Sig] : KnownE Go.Proofs.Tryz.prog (gl3 0 2 3) 194 rks_k52 := (knownE_cons rk_k260 (knownE_cons rk_k261 (knownE_cons rk_k262 (knownE_cons rk_k263 (knownE_cons rk_k264 knownE_nil)))))
theorem rks_kn52 [Sig] : KnownL Go.Proofs.Tryz.prog (gl3 0 2 3) 6 rks_l52 := chain_known stat (ftE_ok rk_base rks_ke52) rks_lot52 (by kernel_rfl)
theorem rks_ke53 [Sig] : KnownE Go.Proofs.Tryz.prog (gl3 0 2 3) 194 rks_k53 := (knownE_cons rk_k265 (knownE_cons rk_k266 (knownE_cons rk_k267 (knownE_cons rk_k268 (knownE_cons rk_k269 knownE_nil)))))
theorem rks_kn53 [Sig] : KnownL Go.Proofs.Tryz.prog (gl3 0 2 3) 6 rks_l53 := chain_known stat (ftE_ok rk_base rks_ke53) rks_lot53 (by kernel_rfl)
theorem rks_ke54 [Sig] : KnownE Go.Proofs.Tryz.prog (gl3 0 2 3) 194 rks_k54 := (knownE_cons rk_k270 (knownE_cons rk_k271 (knownE_cons rk_k272 (knownE_cons rk_k273 (knownE_cons rk_k274 knownE_nil)))))
theorem rks_kn54 [Sig] : KnownL Go.Proofs.Tryz.prog (gl3 0 2 3) 6 rks_l54 := chain_known stat (ftE_ok rk_base rks_ke54) rks_lot54 (by kernel_rfl)
theorem rks_ke55 [Sig] : KnownE Go.Proofs.Tryz.prog (gl3 0 2 3) 194 rks_k55 := (knownE_cons rk_k275 (knownE_cons rk_k276 (knownE_cons rk_k277 (knownE_cons rk_k278 (knownE_cons rk_k279 knownE_nil)))))
theorem rks_kn55 [Sig] : KnownL Go.Proofs.Tryz.prog (gl3 0 2 3) 6 rks_l55 := chain_known stat (ftE_ok rk_base rks_ke55) rks_lot55 (by kernel_rfl)
theorem rks_ke56 [Sig] : KnownE Go.Proofs.Tryz.prog (gl3 0 2 3) 194 rks_k56 := (knownE_cons rk_k280 (knownE_cons rk_k281 (knownE_cons rk_k282 (knownE_cons rk_k283 (knownE_cons rk_k284 knownE_nil)))))
theorem rks_kn56 [Sig] : KnownL Go.Proofs.Tryz.prog (gl3 0 2 3) 6 rks_l56 := chain_known stat (ftE_ok rk_base rks_ke56) rks_lot56 (by kernel_rfl)
theorem rks_ke57 [Sig] : KnownE Go.Proofs.Tryz.prog (gl3 0 2 3) 194 rks_k57 := (knownE_cons rk_k285 (knownE_cons rk_k286 (knownE_cons rk_k287 (knownE_cons rk_k288 (knownE_cons rk_k289 knownE_nil)))))
theorem rks_kn57 [Sig] : KnownL Go.Proofs.Tryz.prog (gl3 0 2 3) 6 rks_l57 := chain_known stat (ftE_ok rk_base rks_ke57) rks_lot57 (by kernel_rfl)
theorem rks_ke58 [Sig] : KnownE Go.Proofs.Tryz.prog (gl3 0 2 3) 194 rks_k58 := (knownE_cons rk_k290 (knownE_cons rk_k291 (knownE_cons rk_k292 (knownE_cons rk_k293 (knownE_cons rk_k294 knownE_nil)))))
theorem rks_kn58 [Sig] : KnownL Go.Proofs.Tryz.prog (gl3 0 2 3) 6 rks_l58 := chain_known stat (ftE_ok rk_base rks_ke58) rks_lot58 (by kernel_rfl)
theorem rks_ke59 [Sig] : KnownE Go.Proofs.Tryz.prog (gl3 0 2 3) 194 rks_k59 := (knownE_cons rk_k295 (knownE_cons rk_k296 (knownE_cons rk_k297 (knownE_cons rk_k298 (knownE_cons rk_k299 knownE_nil)))))
theorem rks_kn59 [Sig] : KnownL Go.Proofs.Tryz.prog (gl3 0 2 3) 6 rks_l59 := chain_known stat (ftE_ok rk_base rks_ke59) rks_lot59 (by kernel_rfl)
theorem rks_ke60 [Sig] : KnownE Go.Proofs.Tryz.prog (gl3 0 2 3) 194 rks_k60 := (knownE_cons rk_k300 (knownE_cons rk_k301 (knownE_cons rk_k302 (knownE_cons rk_k303 (knownE_cons rk_k304 knownE_nil)))))
theorem rks_kn60 [Sig] : KnownL Go.Proofs.Tryz.prog (gl3 0 2 3) 6 rks_l60 := chain_known stat (ftE_ok rk_base rks_ke60) rks_lot60 (by kernel_rfl)
theorem rks_ke61 [Sig] : KnownE Go.Proofs.Tryz.prog (gl3 0 2 3) 194 rks_k61 := (knownE_cons rk_k305 (knownE_cons rk_k306 (knownE_cons rk_k307 (knownE_cons rk_k308 (knownE_cons rk_k309 knownE_nil)))))
theorem rks_kn61 [Sig] : KnownL Go.Proofs.Tryz.prog (gl3 0 2 3) 6 rks_l61 := chain_known stat (ftE_ok rk_base rks_ke61) rks_lot61 (by kernel_rfl)
theorem rks_ke62 [Sig] : KnownE Go.Proofs.Tryz.prog (gl3 0 2 3) 194 rks_k62 := (knownE_cons rk_k310 (knownE_cons rk_k311 (knownE_cons rk_k312 (knownE_cons rk_k313 (knownE_cons rk_k314 knownE_nil)))))
theorem rks_kn62 [Sig] : KnownL Go.Proofs.Tryz.prog (gl3 0 2 3) 6 rks_l62 := chain_known stat (ftE_ok rk_base rks_ke62) rks_lot62 (by kernel_rfl)
theorem rks_ke63 [Sig] : KnownE Go.Proofs.Tryz.prog (gl3 0 2 3) 194 rks_k63 := (knownE_cons rk_k315 (knownE_cons rk_k316 (knownE_cons rk_k317 (knownE_cons rk_k318 (knownE_cons rk_k319 knownE_nil)))))
theorem rks_kn63 [Sig] : KnownL Go.Proofs.Tryz.prog (gl3 0 2 3) 6 rks_l63 := chain_known stat (ftE_ok rk_base rks_ke63) rks_lot63 (by kernel_rfl)
theorem rks_ke64 [Sig] : KnownE Go.Proofs.Tryz.prog (gl3 0 2 3) 194 rks_k64 := (knownE_cons rk_k320 (knownE_cons rk_k321 (knownE_cons rk_k322 (knownE_cons rk_k323 (knownE_cons rk_k324 knownE_nil)))))
theorem rks_kn64 [Sig] : KnownL Go.Proofs.Tryz.prog (gl3 0 2 3) 6 rks_l64 := chain_known stat (ftE_ok rk_base rks_ke64) rks_lot64 (by kernel_rfl)
theorem rks_ke65 [Sig] : KnownE Go.Proofs.Tryz.prog (gl3 0 2 3) 194 rks_k65 := (knownE_cons rk_k325 (knownE_cons rk_k326 (knownE_cons rk_k327 (knownE_cons rk_k328 (knownE_cons rk_k329 knownE_nil)))))
theorem rks_kn65 [Sig] : KnownL Go.Proofs.Tryz.prog (gl3 0 2 3) 6 rks_l65 := chain_known stat (ftE_ok rk_base rks_ke65) rks_lot65 (by kernel_rfl)
theorem rks_ke66 [Sig] : KnownE Go.Proofs.Tryz.prog (gl3 0 2 3) 194 rks_k66 := (knownE_cons rk_k330 (knownE_cons rk_k331 (knownE_cons rk_k332 (knownE_cons rk_k333 (knownE_cons rk_k334 knownE_nil)))))
theorem rks_kn66 [Sig] : KnownL Go.Proofs.Tryz.prog (gl3 0 2 3) 6 rks_l66 := chain_known stat (ftE_ok rk_base rks_ke66) rks_lot66 (by kernel_rfl)
theorem rks_ke67 [Sig] : KnownE Go.Proofs.Tryz.prog (gl3 0 2 3) 194 rks_k67 := (knownE_cons rk_k335 (knownE_cons rk_k336 (knownE_cons rk_k337 (knownE_cons rk_k338 (knownE_cons rk_k339 knownE_nil)))))
theorem rks_kn67 [Sig] : KnownL Go.Proofs.Tryz.prog (gl3 0 2 3) 6 rks_l67 := chain_known stat (ftE_ok rk_base rks_ke67) rks_lot67 (by kernel_rfl)
theorem rks_ke68 [Sig] : KnownE Go.Proofs.Tryz.prog (gl3 0 2 3) 194 rks_k68 := (knownE_cons rk_k340 (knownE_cons rk_k341 (knownE_cons rk_k342 (knownE_cons rk_k343 (knownE_cons rk_k344 knownE_nil)))))
theorem rks_kn68 [Sig] : KnownL Go.Proofs.Tryz.prog (gl3 0 2 3) 6 rks_l68 := chain_known stat (ftE_ok rk_base rks_ke68) rks_lot68 (by kernel_rfl)
theorem rks_ke69 [Sig] : KnownE Go.Proofs.Tryz.prog (gl3 0 2 3) 194 rks_k69 := (knownE_cons rk_k345 (knownE_cons rk_k346 (knownE_cons rk_k347 (knownE_cons rk_k348 (knownE_cons rk_k349 knownE_nil)))))
theorem rks_kn69 [Sig] : KnownL Go.Proofs.Tryz.prog (gl3 0 2 3) 6 rks_l69 := chain_known stat (ftE_ok rk_base rks_ke69) rks_lot69 (by kernel_rfl)
theorem rks_ke70 [Sig] : KnownE Go.Proofs.Tryz.prog (gl3 0 2 3) 194 rks_k70 := (knownE_cons rk_k350 (knownE_cons rk_k351 (knownE_cons rk_k352 (knownE_cons rk_k353 (knownE_cons rk_k354 knownE_nil)))))
theorem rks_kn70 [Sig] : KnownL Go.Proofs.Tryz.prog (gl3 0 2 3) 6 rks_l70 := chain_known stat (ftE_ok rk_base rks_ke70) rks_lot70 (by kernel_rfl)
theorem rks_ke71 [Sig] : KnownE Go.Proofs.Tryz.prog (gl3 0 2 3) 194 rks_k71 := (knownE_cons rk_k355 (knownE_cons rk_k356 (knownE_cons rk_k357 (knownE_cons rk_k358 (knownE_cons rk_k359 knownE_nil)))))
theorem rks_kn71 [Sig] : KnownL Go.Proofs.Tryz.prog (gl3 0 2 3) 6 rks_l71 := chain_known stat (ftE_ok rk_base rks_ke71) rks_lot71 (by kernel_rfl)
theorem rks_ke72 [Sig] : KnownE Go.Proofs.Tryz.prog (gl3 0 2 3) 194 rks_k72 := (knownE_cons rk_k360 (knownE_cons rk_k361 (knownE_cons rk_k362 (knownE_cons rk_k363 (knownE_cons rk_k364 knownE_nil)))))
theorem rks_kn72 [Sig] : KnownL Go.Proofs.Tryz.prog (gl3 0 2 3) 6 rks_l72 := chain_known stat (ftE_ok rk_base rks_ke72) rks_lot72 (by kernel_rfl)
theorem rks_ke73 [Sig] : KnownE Go.Proofs.Tryz.prog (gl3 0 2 3) 194 rks_k73 := (knownE_cons rk_k365 (knownE_cons rk_k366 (knownE_cons rk_k367 (knownE_cons rk_k368 (knownE_cons rk_k369 knownE_nil)))))
theorem rks_kn73 [Sig] : KnownL Go.Proofs.Tryz.prog (gl3 0 2 3) 6 rks_l73 := chain_known stat (ftE_ok rk_base rks_ke73) rks_lot73 (by kernel_rfl)
theorem rks_ke74 [Sig] : KnownE Go.Proofs.Tryz.prog (gl3 0 2 3) 194 rks_k74 := (knownE_cons rk_k370 (knownE_cons rk_k371 (knownE_cons rk_k372 (knownE_cons rk_k373 (knownE_cons rk_k374 knownE_nil)))))
theorem rks_kn74 [Sig] : KnownL Go.Proofs.Tryz.prog (gl3 0 2 3) 6 rks_l74 := chain_known stat (ftE_ok rk_base rks_ke74) rks_lot74 (by kernel_rfl)
theorem rks_ke75 [Sig] : KnownE Go.Proofs.Tryz.prog (gl3 0 2 3) 194 rks_k75 := (knownE_cons rk_k375 (knownE_cons rk_k376 (knownE_cons rk_k377 (knownE_cons rk_k378 (knownE_cons rk_k379 knownE_nil)))))
theorem rks_kn75 [Sig] : KnownL Go.Proofs.Tryz.prog (gl3 0 2 3) 6 rks_l75 := chain_known stat (ftE_ok rk_base rks_ke75) rks_lot75 (by kernel_rfl)
theorem rks_ke76 [Sig] : KnownE Go.Proofs.Tryz.prog (gl3 0 2 3) 194 rks_k76 := (knownE_cons rk_k380 (knownE_cons rk_k381 (knownE_cons rk_k382 (knownE_cons rk_k383 (knownE_cons rk_k384 knownE_nil)))))
theorem rks_kn76 [Sig] : KnownL Go.Proofs.Tryz.prog (gl3 0 2 3) 6 rks_l76 := chain_known stat (ftE_ok rk_base rks_ke76) rks_lot76 (by kernel_rfl)
theorem rks_ke77 [Sig] : KnownE Go.Proofs.Tryz.prog (gl3 0 2 3) 194 rks_k77 := (knownE_cons rk_k385 (knownE_cons rk_k386 (knownE_cons rk_k387 (knownE_cons rk_k388 (knownE_cons rk_k389 knownE_nil)))))
theorem rks_kn77 [Sig] : KnownL Go.Proofs.Tryz.prog (gl3 0 2 3) 6 rks_l77 := chain_known stat (ftE_ok rk_base rks_ke77) rks_lot77 (by kernel_rfl)
theorem rks_ke78 [Sig] : KnownE Go.Proofs.Tryz.prog (gl3 0 2 3) 194 rks_k78 := (knownE_cons rk_k390 (knownE_cons rk_k391 knownE_nil))
theorem rks_kn78 [Sig] : KnownL Go.Proofs.Tryz.prog (gl3 0 2 3) 6 rks_l78 := chain_known stat (ftE_ok rk_base rks_ke78) rks_lot78 (by kernel_rfl)
theorem rk_tab_is : rk_tab = (rks_l0 ++ (rks_l1 ++ (rks_l2 ++ (rks_l3 ++ (rks_l4 ++ (rks_l5 ++ (rks_l6 ++ (rks_l7 ++ (rks_l8 ++ (rks_l9 ++ (rks_l10 ++ (rks_l11 ++ (rks_l12 ++ (rks_l13 ++ (rks_l14 ++ (rks_l15 ++ (rks_l16 ++ (rks_l17 ++ (rks_l18 ++ (rks_l19 ++ (rks_l20 ++ (rks_l21 ++ (rks_l22 ++ (rks_l23 ++ (rks_l24 ++ (rks_l25 ++ (rks_l26 ++ (rks_l27 ++ (rks_l28 ++ (rks_l29 ++ (rks_l30 ++ (rks_l31 ++ (rks_l32 ++ (rks_l33 ++ (rks_l34 ++ (rks_l35 ++ (rks_l36 ++ (rks_l37 ++ (rks_l38 ++ (rks_l39 ++ (rks_l40 ++ (rks_l41 ++ (rks_l42 ++ (rks_l43 ++ (rks_l44 ++ (rks_l45 ++ (rks_l46 ++ (rks_l47 ++ (rks_l48 ++ (rks_l49 ++ (rks_l50 ++ (rks_l51 ++ (rks_l52 ++ (rks_l53 ++ (rks_l54 ++ (rks_l55 ++ (rks_l56 ++ (rks_l57 ++ (rks_l58 ++ (rks_l59 ++ (rks_l60 ++ (rks_l61 ++ (rks_l62 ++ (rks_l63 ++ (rks_l64 ++ (rks_l65 ++ (rks_l66 ++ (rks_l67 ++ (rks_l68 ++ (rks_l69 ++ (rks_l70 ++ (rks_l71 ++ (rks_l72 ++ (rks_l73 ++ (rks_l74 ++ (rks_l75 ++ (rks_l76 ++ (rks_l77 ++ (rks_l78 ++ []))))))))))))))))))))))))))))))))))))))))))))))))))))))))))))))))))))))))))))))) := rfl
theorem rk_kn [Sig] : KnownL Go.Proofs.Tryz.prog (gl3 0 2 3) 6 rk_tab := by rw [rk_tab_is]; exact (knownL_app rks_kn0 (knownL_app rks_kn1 (knownL_app rks_kn2 (knownL_app rks_kn3 (knownL_app rks_kn4 (knownL_app rks_kn5 (knownL_app rks_kn6 (knownL_app rks_kn7 (knownL_app rks_kn8 (knownL_app rks_kn9 (knownL_app rks_kn10 (knownL_app rks_kn11 (knownL_app rks_kn12 (knownL_app rks_kn13 (knownL_app rks_kn14 (knownL_app rks_kn15 (knownL_app rks_kn16 (knownL_app rks_kn17 (knownL_app rks_kn18 (knownL_app rks_kn19 (knownL_app rks_kn20 (knownL_app rks_kn21 (knownL_app rks_kn22 (knownL_app rks_kn23 (knownL_app rks_kn24 (knownL_app rks_kn25 (knownL_app rks_kn26 (knownL_app rks_kn27 (knownL_app rks_kn28 (knownL_app rks_kn29 (knownL_app rks_kn30 (knownL_app rks_kn31 (knownL_app rks_kn32 (knownL_app rks_kn33 (knownL_app rks_kn34 (knownL_app rks_kn35 (knownL_app rks_kn36 (knownL_app rks_kn37 (knownL_app rks_kn38 (knownL_app rks_kn39 (knownL_app rks_kn40 (knownL_app rks_kn41 (knownL_app rks_kn42 (knownL_app rks_kn43 (knownL_app rks_kn44 (knownL_app rks_kn45 (knownL_app rks_kn46 (knownL_app rks_kn47 (knownL_app rks_kn48 (knownL_app rks_kn49 (knownL_app rks_kn50 (knownL_app rks_kn51 (knownL_app rks_kn52 (knownL_app rks_kn53 (knownL_app rks_kn54 (knownL_app rks_kn55 (knownL_app rks_kn56 (knownL_app rks_kn57 (knownL_app rks_kn58 (knownL_app rks_kn59 (knownL_app rks_kn60 (knownL_app rks_kn61 (knownL_app rks_kn62 (knownL_app rks_kn63 (knownL_app rks_kn64 (knownL_app rks_kn65 (knownL_app rks_kn66 (knownL_app rks_kn67 (knownL_app rks_kn68 (knownL_app rks_kn69 (knownL_app rks_kn70 (knownL_app rks_kn71 (knownL_app rks_kn72 (knownL_app rks_kn73 (knownL_app rks_kn74 (knownL_app rks_kn75 (knownL_app rks_kn76 (knownL_app rks_kn77 (knownL_app rks_kn78 knownL_nil)))))))))))))))))))))))))))))))))))))))))))))))))))))))))))))))))))))))))))))))
theorem rk_ok [Sig] : FtOK Go.Proofs.Tryz.prog (gl3 0 2 3) rk_ft2 := ftL_ok rk_base rk_kn
theorem rk_r0 [Sig] (k : Nat) (x : KV) (h : rk_l0[k]? = some x) : Ran Go.Proofs.Tryz.prog (gl3 0 2 3) 3 (tupL (kvK x)) (kvV x) := chain_ran stat rk_ok rk_lot0 x (List.mem_of_getElem? h)
theorem rk_r1 [Sig] (k : Nat) (x : KV) (h : rk_l1[k]? = some x) : Ran Go.Proofs.Tryz.prog (gl3 0 2 3) 3 (tupL (kvK x)) (kvV x) := chain_ran stat rk_ok rk_lot1 x (List.mem_of_getElem? h)
theorem rk_r2 [Sig] (k : Nat) (x : KV) (h : rk_l2[k]? = some x) : Ran Go.Proofs.Tryz.prog (gl3 0 2 3) 3 (tupL (kvK x)) (kvV x) := chain_ran stat rk_ok rk_lot2 x (List.mem_of_getElem? h)
theorem rk_r3 [Sig] (k : Nat) (x : KV) (h : rk_l3[k]? = some x) : Ran Go.Proofs.Tryz.prog (gl3 0 2 3) 3 (tupL (kvK x)) (kvV x) := chain_ran stat rk_ok rk_lot3 x (List.mem_of_getElem? h)
theorem rk_r4 [Sig] (k : Nat) (x : KV) (h : rk_l4[k]? = some x) : Ran Go.Proofs.Tryz.prog (gl3 0 2 3) 3 (tupL (kvK x)) (kvV x) := chain_ran stat rk_ok rk_lot4 x (List.mem_of_getElem? h)
theorem rk_all_0 [Sig] (r1 : Nat) (h1 : r1 < 8) : Ran Go.Proofs.Tryz.prog (gl3 0 2 3) 3 [.sym 0 .i64 (8) 0, .sym 1 .i64 (8) r1] (.bool true) := by
  have hh : r1 = 0 ∨ r1 = 1 ∨ r1 = 2 ∨ r1 = 3 ∨ r1 = 4 ∨ r1 = 5 ∨ r1 = 6 ∨ r1 = 7 := by omega
  clear h1
  rcases hh with rfl | rfl | rfl | rfl | rfl | rfl | rfl | rfl
  · exact rk_r0 0 _ rfl
  · exact rk_r0 1 _ rfl
  · exact rk_r0 2 _ rfl
  · exact rk_r0 3 _ rfl
  · exact rk_r0 4 _ rfl
  · exact rk_r0 5 _ rfl
  · exact rk_r0 6 _ rfl
  · exact rk_r0 7 _ rfl
theorem rk_all_1 [Sig] (r1 : Nat) (h1 : r1 < 8) : Ran Go.Proofs.Tryz.prog (gl3 0 2 3) 3 [.sym 0 .i64 (8) 1, .sym 1 .i64 (8) r1] (.bool true) := by
  have hh : r1 = 0 ∨ r1 = 1 ∨ r1 = 2 ∨ r1 = 3 ∨ r1 = 4 ∨ r1 = 5 ∨ r1 = 6 ∨ r1 = 7 := by omega
  clear h1
  rcases hh with rfl | rfl | rfl | rfl | rfl | rfl | rfl | rfl
  · exact rk_r0 8 _ rfl
  · exact rk_r0 9 _ rfl
  · exact rk_r0 10 _ rfl
  · exact rk_r0 11 _ rfl
  · exact rk_r0 12 _ rfl
  · exact rk_r1 0 _ rfl
  · exact rk_r1 1 _ rfl
  · exact rk_r1 2 _ rfl
theorem rk_all_2 [Sig] (r1 : Nat) (h1 : r1 < 8) : Ran Go.Proofs.Tryz.prog (gl3 0 2 3) 3 [.sym 0 .i64 (8) 2, .sym 1 .i64 (8) r1] (.bool true) := by
  have hh : r1 = 0 ∨ r1 = 1 ∨ r1 = 2 ∨ r1 = 3 ∨ r1 = 4 ∨ r1 = 5 ∨ r1 = 6 ∨ r1 = 7 := by omega
  clear h1
  rcases hh with rfl | rfl | rfl | rfl | rfl | rfl | rfl | rfl
  · exact rk_r1 3 _ rfl
  · exact rk_r1 4 _ rfl
  · exact rk_r1 5 _ rfl
  · exact rk_r1 6 _ rfl
  · exact rk_r1 7 _ rfl
  · exact rk_r1 8 _ rfl
  · exact rk_r1 9 _ rfl
  · exact rk_r1 10 _ rfl
theorem rk_all_3 [Sig] (r1 : Nat) (h1 : r1 < 8) : Ran Go.Proofs.Tryz.prog (gl3 0 2 3) 3 [.sym 0 .i64 (8) 3, .sym 1 .i64 (8) r1] (.bool true) := by
  have hh : r1 = 0 ∨ r1 = 1 ∨ r1 = 2 ∨ r1 = 3 ∨ r1 = 4 ∨ r1 = 5 ∨ r1 = 6 ∨ r1 = 7 := by omega
  clear h1
  rcases hh with rfl | rfl | rfl | rfl | rfl | rfl | rfl | rfl
  · exact rk_r1 11 _ rfl
  · exact rk_r1 12 _ rfl
  · exact rk_r2 0 _ rfl
  · exact rk_r2 1 _ rfl
  · exact rk_r2 2 _ rfl
  · exact rk_r2 3 _ rfl
  · exact rk_r2 4 _ rfl
  · exact rk_r2 5 _ rfl
theorem rk_all_4 [Sig] (r1 : Nat) (h1 : r1 < 8) : Ran Go.Proofs.Tryz.prog (gl3 0 2 3) 3 [.sym 0 .i64 (8) 4, .sym 1 .i64 (8) r1] (.bool true) := by
  have hh : r1 = 0 ∨ r1 = 1 ∨ r1 = 2 ∨ r1 = 3 ∨ r1 = 4 ∨ r1 = 5 ∨ r1 = 6 ∨ r1 = 7 := by omega
  clear h1
  rcases hh with rfl | rfl | rfl | rfl | rfl | rfl | rfl | rfl
  · exact rk_r2 6 _ rfl
  · exact rk_r2 7 _ rfl
  · exact rk_r2 8 _ rfl
  · exact rk_r2 9 _ rfl
  · exact rk_r2 10 _ rfl
  · exact rk_r2 11 _ rfl
  · exact rk_r2 12 _ rfl
  · exact rk_r3 0 _ rfl
theorem rk_all_5 [Sig] (r1 : Nat) (h1 : r1 < 8) : Ran Go.Proofs.Tryz.prog (gl3 0 2 3) 3 [.sym 0 .i64 (8) 5, .sym 1 .i64 (8) r1] (.bool true) := by
  have hh : r1 = 0 ∨ r1 = 1 ∨ r1 = 2 ∨ r1 = 3 ∨ r1 = 4 ∨ r1 = 5 ∨ r1 = 6 ∨ r1 = 7 := by omega
  clear h1
  rcases hh with rfl | rfl | rfl | rfl | rfl | rfl | rfl | rfl
  · exact rk_r3 1 _ rfl
  · exact rk_r3 2 _ rfl
  · exact rk_r3 3 _ rfl
  · exact rk_r3 4 _ rfl
  · exact rk_r3 5 _ rfl
  · exact rk_r3 6 _ rfl
  · exact rk_r3 7 _ rfl
  · exact rk_r3 8 _ rfl
theorem rk_all_6 [Sig] (r1 : Nat) (h1 : r1 < 8) : Ran Go.Proofs.Tryz.prog (gl3 0 2 3) 3 [.sym 0 .i64 (8) 6, .sym 1 .i64 (8) r1] (.bool true) := by
  have hh : r1 = 0 ∨ r1 = 1 ∨ r1 = 2 ∨ r1 = 3 ∨ r1 = 4 ∨ r1 = 5 ∨ r1 = 6 ∨ r1 = 7 := by omega
  clear h1
  rcases hh with rfl | rfl | rfl | rfl | rfl | rfl | rfl | rfl
  · exact rk_r3 9 _ rfl
  · exact rk_r3 10 _ rfl
  · exact rk_r3 11 _ rfl
  · exact rk_r3 12 _ rfl
  · exact rk_r4 0 _ rfl
  · exact rk_r4 1 _ rfl
  · exact rk_r4 2 _ rfl
  · exact rk_r4 3 _ rfl
theorem rk_all_7 [Sig] (r1 : Nat) (h1 : r1 < 8) : Ran Go.Proofs.Tryz.prog (gl3 0 2 3) 3 [.sym 0 .i64 (8) 7, .sym 1 .i64 (8) r1] (.bool true) := by
  have hh : r1 = 0 ∨ r1 = 1 ∨ r1 = 2 ∨ r1 = 3 ∨ r1 = 4 ∨ r1 = 5 ∨ r1 = 6 ∨ r1 = 7 := by omega
  clear h1
  rcases hh with rfl | rfl | rfl | rfl | rfl | rfl | rfl | rfl
  · exact rk_r4 4 _ rfl
  · exact rk_r4 5 _ rfl
  · exact rk_r4 6 _ rfl
  · exact rk_r4 7 _ rfl
  · exact rk_r4 8 _ rfl
  · exact rk_r4 9 _ rfl
  · exact rk_r4 10 _ rfl
  · exact rk_r4 11 _ rfl
theorem rk_all [Sig] (r0 : Nat) (r1 : Nat) (h0 : r0 < 8) (h1 : r1 < 8) : Ran Go.Proofs.Tryz.prog (gl3 0 2 3) 3 [.sym 0 .i64 (8) r0, .sym 1 .i64 (8) r1] (.bool true) := by
  have hh : r0 = 0 ∨ r0 = 1 ∨ r0 = 2 ∨ r0 = 3 ∨ r0 = 4 ∨ r0 = 5 ∨ r0 = 6 ∨ r0 = 7 := by omega
  clear h0
  rcases hh with rfl | rfl | rfl | rfl | rfl | rfl | rfl | rfl
  · exact rk_all_0 r1 h1
  · exact rk_all_1 r1 h1
  · exact rk_all_2 r1 h1
  · exact rk_all_3 r1 h1
  · exact rk_all_4 r1 h1
  · exact rk_all_5 r1 h1
  · exact rk_all_6 r1 h1
  · exact rk_all_7 r1 h1
end Go.Exe.Tryz
