/- TwinKinds: all runs together. -/
import Derived.Test.YtoddgmlofhkndaaGreatDoorExeStat
import Derived.Test.YtoddgmlofhkndaaGreatDoorTkRunA
import Derived.Test.YtoddgmlofhkndaaGreatDoorTkRunB
import Derived.Test.YtoddgmlofhkndaaGreatDoorTkRunC
import Derived.Test.YtoddgmlofhkndaaGreatDoorTkRunD
import Derived.Test.YtoddgmlofhkndaaGreatDoorTkRunE
import Derived.Test.YtoddgmlofhkndaaGreatDoorTkRunF
import Derived.Test.YtoddgmlofhkndaaGreatDoorTkRunG
import Derived.Test.YtoddgmlofhkndaaGreatDoorTkRunH
import Derived.Test.YtoddgmlofhkndaaGreatDoorTkRunI
import Derived.Test.YtoddgmlofhkndaaGreatDoorTkRunJ
import Derived.Test.YtoddgmlofhkndaaGreatDoorTkRunK
import Derived.Test.YtoddgmlofhkndaaGreatDoorTkRunL
import Derived.Test.YtoddgmlofhkndaaGreatDoorTkRunM
import Derived.Test.YtoddgmlofhkndaaGreatDoorTkRunN
import Derived.Test.YtoddgmlofhkndaaGreatDoorTkRunO
import Derived.Test.YtoddgmlofhkndaaGreatDoorTkRunP
import Derived.Test.YtoddgmlofhkndaaGreatDoorTkRunQ
import Derived.Test.YtoddgmlofhkndaaGreatDoorTkRunR
import Derived.Test.YtoddgmlofhkndaaGreatDoorTkRunS
import Derived.Test.YtoddgmlofhkndaaGreatDoorTkRunT
import Derived.Test.YtoddgmlofhkndaaGreatDoorTkRunU
import Derived.Test.YtoddgmlofhkndaaGreatDoorTkRunV
import Derived.Test.YtoddgmlofhkndaaGreatDoorTkRunW
import Derived.Test.YtoddgmlofhkndaaGreatDoorTkRunX
import Derived.Test.YtoddgmlofhkndaaGreatDoorTkRunY
import Derived.Test.YtoddgmlofhkndaaGreatDoorTkRunZ
set_option linter.unusedVariables false
set_option linter.unusedSimpArgs false
set_option maxRecDepth 100000
set_option maxHeartbeats 4000000
namespace Go.Exe.Tryz
open Go Go.Exe
theorem tk_ok [Sig] : FtOK Go.Proofs.Tryz.prog (gl3 1 2 3) tk_ft := ftK_ok ftOK (known_of stat ftOK tk_awake)
theorem tk_r0 [Sig] (k : Nat) (x : KV) (h : tk_l0[k]? = some x) : Ran Go.Proofs.Tryz.prog (gl3 1 2 3) 3 (tupL (kvK x)) (kvV x) := chain_ran stat tk_ok tk_lot0 x (List.mem_of_getElem? h)
theorem tk_r1 [Sig] (k : Nat) (x : KV) (h : tk_l1[k]? = some x) : Ran Go.Proofs.Tryz.prog (gl3 1 2 3) 3 (tupL (kvK x)) (kvV x) := chain_ran stat tk_ok tk_lot1 x (List.mem_of_getElem? h)
theorem tk_r2 [Sig] (k : Nat) (x : KV) (h : tk_l2[k]? = some x) : Ran Go.Proofs.Tryz.prog (gl3 1 2 3) 3 (tupL (kvK x)) (kvV x) := chain_ran stat tk_ok tk_lot2 x (List.mem_of_getElem? h)
theorem tk_r3 [Sig] (k : Nat) (x : KV) (h : tk_l3[k]? = some x) : Ran Go.Proofs.Tryz.prog (gl3 1 2 3) 3 (tupL (kvK x)) (kvV x) := chain_ran stat tk_ok tk_lot3 x (List.mem_of_getElem? h)
theorem tk_r4 [Sig] (k : Nat) (x : KV) (h : tk_l4[k]? = some x) : Ran Go.Proofs.Tryz.prog (gl3 1 2 3) 3 (tupL (kvK x)) (kvV x) := chain_ran stat tk_ok tk_lot4 x (List.mem_of_getElem? h)
theorem tk_r5 [Sig] (k : Nat) (x : KV) (h : tk_l5[k]? = some x) : Ran Go.Proofs.Tryz.prog (gl3 1 2 3) 3 (tupL (kvK x)) (kvV x) := chain_ran stat tk_ok tk_lot5 x (List.mem_of_getElem? h)
theorem tk_r6 [Sig] (k : Nat) (x : KV) (h : tk_l6[k]? = some x) : Ran Go.Proofs.Tryz.prog (gl3 1 2 3) 3 (tupL (kvK x)) (kvV x) := chain_ran stat tk_ok tk_lot6 x (List.mem_of_getElem? h)
theorem tk_r7 [Sig] (k : Nat) (x : KV) (h : tk_l7[k]? = some x) : Ran Go.Proofs.Tryz.prog (gl3 1 2 3) 3 (tupL (kvK x)) (kvV x) := chain_ran stat tk_ok tk_lot7 x (List.mem_of_getElem? h)
theorem tk_r8 [Sig] (k : Nat) (x : KV) (h : tk_l8[k]? = some x) : Ran Go.Proofs.Tryz.prog (gl3 1 2 3) 3 (tupL (kvK x)) (kvV x) := chain_ran stat tk_ok tk_lot8 x (List.mem_of_getElem? h)
theorem tk_r9 [Sig] (k : Nat) (x : KV) (h : tk_l9[k]? = some x) : Ran Go.Proofs.Tryz.prog (gl3 1 2 3) 3 (tupL (kvK x)) (kvV x) := chain_ran stat tk_ok tk_lot9 x (List.mem_of_getElem? h)
theorem tk_r10 [Sig] (k : Nat) (x : KV) (h : tk_l10[k]? = some x) : Ran Go.Proofs.Tryz.prog (gl3 1 2 3) 3 (tupL (kvK x)) (kvV x) := chain_ran stat tk_ok tk_lot10 x (List.mem_of_getElem? h)
theorem tk_r11 [Sig] (k : Nat) (x : KV) (h : tk_l11[k]? = some x) : Ran Go.Proofs.Tryz.prog (gl3 1 2 3) 3 (tupL (kvK x)) (kvV x) := chain_ran stat tk_ok tk_lot11 x (List.mem_of_getElem? h)
theorem tk_r12 [Sig] (k : Nat) (x : KV) (h : tk_l12[k]? = some x) : Ran Go.Proofs.Tryz.prog (gl3 1 2 3) 3 (tupL (kvK x)) (kvV x) := chain_ran stat tk_ok tk_lot12 x (List.mem_of_getElem? h)
theorem tk_r13 [Sig] (k : Nat) (x : KV) (h : tk_l13[k]? = some x) : Ran Go.Proofs.Tryz.prog (gl3 1 2 3) 3 (tupL (kvK x)) (kvV x) := chain_ran stat tk_ok tk_lot13 x (List.mem_of_getElem? h)
theorem tk_r14 [Sig] (k : Nat) (x : KV) (h : tk_l14[k]? = some x) : Ran Go.Proofs.Tryz.prog (gl3 1 2 3) 3 (tupL (kvK x)) (kvV x) := chain_ran stat tk_ok tk_lot14 x (List.mem_of_getElem? h)
theorem tk_r15 [Sig] (k : Nat) (x : KV) (h : tk_l15[k]? = some x) : Ran Go.Proofs.Tryz.prog (gl3 1 2 3) 3 (tupL (kvK x)) (kvV x) := chain_ran stat tk_ok tk_lot15 x (List.mem_of_getElem? h)
theorem tk_r16 [Sig] (k : Nat) (x : KV) (h : tk_l16[k]? = some x) : Ran Go.Proofs.Tryz.prog (gl3 1 2 3) 3 (tupL (kvK x)) (kvV x) := chain_ran stat tk_ok tk_lot16 x (List.mem_of_getElem? h)
theorem tk_r17 [Sig] (k : Nat) (x : KV) (h : tk_l17[k]? = some x) : Ran Go.Proofs.Tryz.prog (gl3 1 2 3) 3 (tupL (kvK x)) (kvV x) := chain_ran stat tk_ok tk_lot17 x (List.mem_of_getElem? h)
theorem tk_r18 [Sig] (k : Nat) (x : KV) (h : tk_l18[k]? = some x) : Ran Go.Proofs.Tryz.prog (gl3 1 2 3) 3 (tupL (kvK x)) (kvV x) := chain_ran stat tk_ok tk_lot18 x (List.mem_of_getElem? h)
theorem tk_r19 [Sig] (k : Nat) (x : KV) (h : tk_l19[k]? = some x) : Ran Go.Proofs.Tryz.prog (gl3 1 2 3) 3 (tupL (kvK x)) (kvV x) := chain_ran stat tk_ok tk_lot19 x (List.mem_of_getElem? h)
theorem tk_r20 [Sig] (k : Nat) (x : KV) (h : tk_l20[k]? = some x) : Ran Go.Proofs.Tryz.prog (gl3 1 2 3) 3 (tupL (kvK x)) (kvV x) := chain_ran stat tk_ok tk_lot20 x (List.mem_of_getElem? h)
theorem tk_r21 [Sig] (k : Nat) (x : KV) (h : tk_l21[k]? = some x) : Ran Go.Proofs.Tryz.prog (gl3 1 2 3) 3 (tupL (kvK x)) (kvV x) := chain_ran stat tk_ok tk_lot21 x (List.mem_of_getElem? h)
theorem tk_r22 [Sig] (k : Nat) (x : KV) (h : tk_l22[k]? = some x) : Ran Go.Proofs.Tryz.prog (gl3 1 2 3) 3 (tupL (kvK x)) (kvV x) := chain_ran stat tk_ok tk_lot22 x (List.mem_of_getElem? h)
theorem tk_r23 [Sig] (k : Nat) (x : KV) (h : tk_l23[k]? = some x) : Ran Go.Proofs.Tryz.prog (gl3 1 2 3) 3 (tupL (kvK x)) (kvV x) := chain_ran stat tk_ok tk_lot23 x (List.mem_of_getElem? h)
theorem tk_r24 [Sig] (k : Nat) (x : KV) (h : tk_l24[k]? = some x) : Ran Go.Proofs.Tryz.prog (gl3 1 2 3) 3 (tupL (kvK x)) (kvV x) := chain_ran stat tk_ok tk_lot24 x (List.mem_of_getElem? h)
theorem tk_r25 [Sig] (k : Nat) (x : KV) (h : tk_l25[k]? = some x) : Ran Go.Proofs.Tryz.prog (gl3 1 2 3) 3 (tupL (kvK x)) (kvV x) := chain_ran stat tk_ok tk_lot25 x (List.mem_of_getElem? h)
theorem tk_r26 [Sig] (k : Nat) (x : KV) (h : tk_l26[k]? = some x) : Ran Go.Proofs.Tryz.prog (gl3 1 2 3) 3 (tupL (kvK x)) (kvV x) := chain_ran stat tk_ok tk_lot26 x (List.mem_of_getElem? h)
theorem tk_r27 [Sig] (k : Nat) (x : KV) (h : tk_l27[k]? = some x) : Ran Go.Proofs.Tryz.prog (gl3 1 2 3) 3 (tupL (kvK x)) (kvV x) := chain_ran stat tk_ok tk_lot27 x (List.mem_of_getElem? h)
theorem tk_r28 [Sig] (k : Nat) (x : KV) (h : tk_l28[k]? = some x) : Ran Go.Proofs.Tryz.prog (gl3 1 2 3) 3 (tupL (kvK x)) (kvV x) := chain_ran stat tk_ok tk_lot28 x (List.mem_of_getElem? h)
theorem tk_r29 [Sig] (k : Nat) (x : KV) (h : tk_l29[k]? = some x) : Ran Go.Proofs.Tryz.prog (gl3 1 2 3) 3 (tupL (kvK x)) (kvV x) := chain_ran stat tk_ok tk_lot29 x (List.mem_of_getElem? h)
theorem tk_r30 [Sig] (k : Nat) (x : KV) (h : tk_l30[k]? = some x) : Ran Go.Proofs.Tryz.prog (gl3 1 2 3) 3 (tupL (kvK x)) (kvV x) := chain_ran stat tk_ok tk_lot30 x (List.mem_of_getElem? h)
theorem tk_r31 [Sig] (k : Nat) (x : KV) (h : tk_l31[k]? = some x) : Ran Go.Proofs.Tryz.prog (gl3 1 2 3) 3 (tupL (kvK x)) (kvV x) := chain_ran stat tk_ok tk_lot31 x (List.mem_of_getElem? h)
theorem tk_r32 [Sig] (k : Nat) (x : KV) (h : tk_l32[k]? = some x) : Ran Go.Proofs.Tryz.prog (gl3 1 2 3) 3 (tupL (kvK x)) (kvV x) := chain_ran stat tk_ok tk_lot32 x (List.mem_of_getElem? h)
theorem tk_r33 [Sig] (k : Nat) (x : KV) (h : tk_l33[k]? = some x) : Ran Go.Proofs.Tryz.prog (gl3 1 2 3) 3 (tupL (kvK x)) (kvV x) := chain_ran stat tk_ok tk_lot33 x (List.mem_of_getElem? h)
theorem tk_r34 [Sig] (k : Nat) (x : KV) (h : tk_l34[k]? = some x) : Ran Go.Proofs.Tryz.prog (gl3 1 2 3) 3 (tupL (kvK x)) (kvV x) := chain_ran stat tk_ok tk_lot34 x (List.mem_of_getElem? h)
theorem tk_r35 [Sig] (k : Nat) (x : KV) (h : tk_l35[k]? = some x) : Ran Go.Proofs.Tryz.prog (gl3 1 2 3) 3 (tupL (kvK x)) (kvV x) := chain_ran stat tk_ok tk_lot35 x (List.mem_of_getElem? h)
theorem tk_r36 [Sig] (k : Nat) (x : KV) (h : tk_l36[k]? = some x) : Ran Go.Proofs.Tryz.prog (gl3 1 2 3) 3 (tupL (kvK x)) (kvV x) := chain_ran stat tk_ok tk_lot36 x (List.mem_of_getElem? h)
theorem tk_r37 [Sig] (k : Nat) (x : KV) (h : tk_l37[k]? = some x) : Ran Go.Proofs.Tryz.prog (gl3 1 2 3) 3 (tupL (kvK x)) (kvV x) := chain_ran stat tk_ok tk_lot37 x (List.mem_of_getElem? h)
theorem tk_r38 [Sig] (k : Nat) (x : KV) (h : tk_l38[k]? = some x) : Ran Go.Proofs.Tryz.prog (gl3 1 2 3) 3 (tupL (kvK x)) (kvV x) := chain_ran stat tk_ok tk_lot38 x (List.mem_of_getElem? h)
theorem tk_r39 [Sig] (k : Nat) (x : KV) (h : tk_l39[k]? = some x) : Ran Go.Proofs.Tryz.prog (gl3 1 2 3) 3 (tupL (kvK x)) (kvV x) := chain_ran stat tk_ok tk_lot39 x (List.mem_of_getElem? h)
theorem tk_r40 [Sig] (k : Nat) (x : KV) (h : tk_l40[k]? = some x) : Ran Go.Proofs.Tryz.prog (gl3 1 2 3) 3 (tupL (kvK x)) (kvV x) := chain_ran stat tk_ok tk_lot40 x (List.mem_of_getElem? h)
theorem tk_r41 [Sig] (k : Nat) (x : KV) (h : tk_l41[k]? = some x) : Ran Go.Proofs.Tryz.prog (gl3 1 2 3) 3 (tupL (kvK x)) (kvV x) := chain_ran stat tk_ok tk_lot41 x (List.mem_of_getElem? h)
theorem tk_r42 [Sig] (k : Nat) (x : KV) (h : tk_l42[k]? = some x) : Ran Go.Proofs.Tryz.prog (gl3 1 2 3) 3 (tupL (kvK x)) (kvV x) := chain_ran stat tk_ok tk_lot42 x (List.mem_of_getElem? h)
theorem tk_r43 [Sig] (k : Nat) (x : KV) (h : tk_l43[k]? = some x) : Ran Go.Proofs.Tryz.prog (gl3 1 2 3) 3 (tupL (kvK x)) (kvV x) := chain_ran stat tk_ok tk_lot43 x (List.mem_of_getElem? h)
theorem tk_r44 [Sig] (k : Nat) (x : KV) (h : tk_l44[k]? = some x) : Ran Go.Proofs.Tryz.prog (gl3 1 2 3) 3 (tupL (kvK x)) (kvV x) := chain_ran stat tk_ok tk_lot44 x (List.mem_of_getElem? h)
theorem tk_r45 [Sig] (k : Nat) (x : KV) (h : tk_l45[k]? = some x) : Ran Go.Proofs.Tryz.prog (gl3 1 2 3) 3 (tupL (kvK x)) (kvV x) := chain_ran stat tk_ok tk_lot45 x (List.mem_of_getElem? h)
theorem tk_r46 [Sig] (k : Nat) (x : KV) (h : tk_l46[k]? = some x) : Ran Go.Proofs.Tryz.prog (gl3 1 2 3) 3 (tupL (kvK x)) (kvV x) := chain_ran stat tk_ok tk_lot46 x (List.mem_of_getElem? h)
theorem tk_r47 [Sig] (k : Nat) (x : KV) (h : tk_l47[k]? = some x) : Ran Go.Proofs.Tryz.prog (gl3 1 2 3) 3 (tupL (kvK x)) (kvV x) := chain_ran stat tk_ok tk_lot47 x (List.mem_of_getElem? h)
theorem tk_r48 [Sig] (k : Nat) (x : KV) (h : tk_l48[k]? = some x) : Ran Go.Proofs.Tryz.prog (gl3 1 2 3) 3 (tupL (kvK x)) (kvV x) := chain_ran stat tk_ok tk_lot48 x (List.mem_of_getElem? h)
theorem tk_r49 [Sig] (k : Nat) (x : KV) (h : tk_l49[k]? = some x) : Ran Go.Proofs.Tryz.prog (gl3 1 2 3) 3 (tupL (kvK x)) (kvV x) := chain_ran stat tk_ok tk_lot49 x (List.mem_of_getElem? h)
theorem tk_r50 [Sig] (k : Nat) (x : KV) (h : tk_l50[k]? = some x) : Ran Go.Proofs.Tryz.prog (gl3 1 2 3) 3 (tupL (kvK x)) (kvV x) := chain_ran stat tk_ok tk_lot50 x (List.mem_of_getElem? h)
theorem tk_r51 [Sig] (k : Nat) (x : KV) (h : tk_l51[k]? = some x) : Ran Go.Proofs.Tryz.prog (gl3 1 2 3) 3 (tupL (kvK x)) (kvV x) := chain_ran stat tk_ok tk_lot51 x (List.mem_of_getElem? h)
theorem tk_r52 [Sig] (k : Nat) (x : KV) (h : tk_l52[k]? = some x) : Ran Go.Proofs.Tryz.prog (gl3 1 2 3) 3 (tupL (kvK x)) (kvV x) := chain_ran stat tk_ok tk_lot52 x (List.mem_of_getElem? h)
theorem tk_r53 [Sig] (k : Nat) (x : KV) (h : tk_l53[k]? = some x) : Ran Go.Proofs.Tryz.prog (gl3 1 2 3) 3 (tupL (kvK x)) (kvV x) := chain_ran stat tk_ok tk_lot53 x (List.mem_of_getElem? h)
theorem tk_r54 [Sig] (k : Nat) (x : KV) (h : tk_l54[k]? = some x) : Ran Go.Proofs.Tryz.prog (gl3 1 2 3) 3 (tupL (kvK x)) (kvV x) := chain_ran stat tk_ok tk_lot54 x (List.mem_of_getElem? h)
theorem tk_r55 [Sig] (k : Nat) (x : KV) (h : tk_l55[k]? = some x) : Ran Go.Proofs.Tryz.prog (gl3 1 2 3) 3 (tupL (kvK x)) (kvV x) := chain_ran stat tk_ok tk_lot55 x (List.mem_of_getElem? h)
theorem tk_r56 [Sig] (k : Nat) (x : KV) (h : tk_l56[k]? = some x) : Ran Go.Proofs.Tryz.prog (gl3 1 2 3) 3 (tupL (kvK x)) (kvV x) := chain_ran stat tk_ok tk_lot56 x (List.mem_of_getElem? h)
theorem tk_r57 [Sig] (k : Nat) (x : KV) (h : tk_l57[k]? = some x) : Ran Go.Proofs.Tryz.prog (gl3 1 2 3) 3 (tupL (kvK x)) (kvV x) := chain_ran stat tk_ok tk_lot57 x (List.mem_of_getElem? h)
theorem tk_r58 [Sig] (k : Nat) (x : KV) (h : tk_l58[k]? = some x) : Ran Go.Proofs.Tryz.prog (gl3 1 2 3) 3 (tupL (kvK x)) (kvV x) := chain_ran stat tk_ok tk_lot58 x (List.mem_of_getElem? h)
theorem tk_r59 [Sig] (k : Nat) (x : KV) (h : tk_l59[k]? = some x) : Ran Go.Proofs.Tryz.prog (gl3 1 2 3) 3 (tupL (kvK x)) (kvV x) := chain_ran stat tk_ok tk_lot59 x (List.mem_of_getElem? h)
theorem tk_r60 [Sig] (k : Nat) (x : KV) (h : tk_l60[k]? = some x) : Ran Go.Proofs.Tryz.prog (gl3 1 2 3) 3 (tupL (kvK x)) (kvV x) := chain_ran stat tk_ok tk_lot60 x (List.mem_of_getElem? h)
theorem tk_r61 [Sig] (k : Nat) (x : KV) (h : tk_l61[k]? = some x) : Ran Go.Proofs.Tryz.prog (gl3 1 2 3) 3 (tupL (kvK x)) (kvV x) := chain_ran stat tk_ok tk_lot61 x (List.mem_of_getElem? h)
theorem tk_r62 [Sig] (k : Nat) (x : KV) (h : tk_l62[k]? = some x) : Ran Go.Proofs.Tryz.prog (gl3 1 2 3) 3 (tupL (kvK x)) (kvV x) := chain_ran stat tk_ok tk_lot62 x (List.mem_of_getElem? h)
theorem tk_r63 [Sig] (k : Nat) (x : KV) (h : tk_l63[k]? = some x) : Ran Go.Proofs.Tryz.prog (gl3 1 2 3) 3 (tupL (kvK x)) (kvV x) := chain_ran stat tk_ok tk_lot63 x (List.mem_of_getElem? h)
theorem tk_r64 [Sig] (k : Nat) (x : KV) (h : tk_l64[k]? = some x) : Ran Go.Proofs.Tryz.prog (gl3 1 2 3) 3 (tupL (kvK x)) (kvV x) := chain_ran stat tk_ok tk_lot64 x (List.mem_of_getElem? h)
theorem tk_r65 [Sig] (k : Nat) (x : KV) (h : tk_l65[k]? = some x) : Ran Go.Proofs.Tryz.prog (gl3 1 2 3) 3 (tupL (kvK x)) (kvV x) := chain_ran stat tk_ok tk_lot65 x (List.mem_of_getElem? h)
theorem tk_r66 [Sig] (k : Nat) (x : KV) (h : tk_l66[k]? = some x) : Ran Go.Proofs.Tryz.prog (gl3 1 2 3) 3 (tupL (kvK x)) (kvV x) := chain_ran stat tk_ok tk_lot66 x (List.mem_of_getElem? h)
theorem tk_r67 [Sig] (k : Nat) (x : KV) (h : tk_l67[k]? = some x) : Ran Go.Proofs.Tryz.prog (gl3 1 2 3) 3 (tupL (kvK x)) (kvV x) := chain_ran stat tk_ok tk_lot67 x (List.mem_of_getElem? h)
theorem tk_r68 [Sig] (k : Nat) (x : KV) (h : tk_l68[k]? = some x) : Ran Go.Proofs.Tryz.prog (gl3 1 2 3) 3 (tupL (kvK x)) (kvV x) := chain_ran stat tk_ok tk_lot68 x (List.mem_of_getElem? h)
theorem tk_r69 [Sig] (k : Nat) (x : KV) (h : tk_l69[k]? = some x) : Ran Go.Proofs.Tryz.prog (gl3 1 2 3) 3 (tupL (kvK x)) (kvV x) := chain_ran stat tk_ok tk_lot69 x (List.mem_of_getElem? h)
theorem tk_r70 [Sig] (k : Nat) (x : KV) (h : tk_l70[k]? = some x) : Ran Go.Proofs.Tryz.prog (gl3 1 2 3) 3 (tupL (kvK x)) (kvV x) := chain_ran stat tk_ok tk_lot70 x (List.mem_of_getElem? h)
theorem tk_r71 [Sig] (k : Nat) (x : KV) (h : tk_l71[k]? = some x) : Ran Go.Proofs.Tryz.prog (gl3 1 2 3) 3 (tupL (kvK x)) (kvV x) := chain_ran stat tk_ok tk_lot71 x (List.mem_of_getElem? h)
theorem tk_r72 [Sig] (k : Nat) (x : KV) (h : tk_l72[k]? = some x) : Ran Go.Proofs.Tryz.prog (gl3 1 2 3) 3 (tupL (kvK x)) (kvV x) := chain_ran stat tk_ok tk_lot72 x (List.mem_of_getElem? h)
theorem tk_r73 [Sig] (k : Nat) (x : KV) (h : tk_l73[k]? = some x) : Ran Go.Proofs.Tryz.prog (gl3 1 2 3) 3 (tupL (kvK x)) (kvV x) := chain_ran stat tk_ok tk_lot73 x (List.mem_of_getElem? h)
theorem tk_r74 [Sig] (k : Nat) (x : KV) (h : tk_l74[k]? = some x) : Ran Go.Proofs.Tryz.prog (gl3 1 2 3) 3 (tupL (kvK x)) (kvV x) := chain_ran stat tk_ok tk_lot74 x (List.mem_of_getElem? h)
theorem tk_r75 [Sig] (k : Nat) (x : KV) (h : tk_l75[k]? = some x) : Ran Go.Proofs.Tryz.prog (gl3 1 2 3) 3 (tupL (kvK x)) (kvV x) := chain_ran stat tk_ok tk_lot75 x (List.mem_of_getElem? h)
theorem tk_r76 [Sig] (k : Nat) (x : KV) (h : tk_l76[k]? = some x) : Ran Go.Proofs.Tryz.prog (gl3 1 2 3) 3 (tupL (kvK x)) (kvV x) := chain_ran stat tk_ok tk_lot76 x (List.mem_of_getElem? h)
theorem tk_r77 [Sig] (k : Nat) (x : KV) (h : tk_l77[k]? = some x) : Ran Go.Proofs.Tryz.prog (gl3 1 2 3) 3 (tupL (kvK x)) (kvV x) := chain_ran stat tk_ok tk_lot77 x (List.mem_of_getElem? h)
theorem tk_r78 [Sig] (k : Nat) (x : KV) (h : tk_l78[k]? = some x) : Ran Go.Proofs.Tryz.prog (gl3 1 2 3) 3 (tupL (kvK x)) (kvV x) := chain_ran stat tk_ok tk_lot78 x (List.mem_of_getElem? h)
theorem tk_r79 [Sig] (k : Nat) (x : KV) (h : tk_l79[k]? = some x) : Ran Go.Proofs.Tryz.prog (gl3 1 2 3) 3 (tupL (kvK x)) (kvV x) := chain_ran stat tk_ok tk_lot79 x (List.mem_of_getElem? h)
theorem tk_r80 [Sig] (k : Nat) (x : KV) (h : tk_l80[k]? = some x) : Ran Go.Proofs.Tryz.prog (gl3 1 2 3) 3 (tupL (kvK x)) (kvV x) := chain_ran stat tk_ok tk_lot80 x (List.mem_of_getElem? h)
theorem tk_r81 [Sig] (k : Nat) (x : KV) (h : tk_l81[k]? = some x) : Ran Go.Proofs.Tryz.prog (gl3 1 2 3) 3 (tupL (kvK x)) (kvV x) := chain_ran stat tk_ok tk_lot81 x (List.mem_of_getElem? h)
theorem tk_r82 [Sig] (k : Nat) (x : KV) (h : tk_l82[k]? = some x) : Ran Go.Proofs.Tryz.prog (gl3 1 2 3) 3 (tupL (kvK x)) (kvV x) := chain_ran stat tk_ok tk_lot82 x (List.mem_of_getElem? h)
theorem tk_r83 [Sig] (k : Nat) (x : KV) (h : tk_l83[k]? = some x) : Ran Go.Proofs.Tryz.prog (gl3 1 2 3) 3 (tupL (kvK x)) (kvV x) := chain_ran stat tk_ok tk_lot83 x (List.mem_of_getElem? h)
theorem tk_r84 [Sig] (k : Nat) (x : KV) (h : tk_l84[k]? = some x) : Ran Go.Proofs.Tryz.prog (gl3 1 2 3) 3 (tupL (kvK x)) (kvV x) := chain_ran stat tk_ok tk_lot84 x (List.mem_of_getElem? h)
theorem tk_r85 [Sig] (k : Nat) (x : KV) (h : tk_l85[k]? = some x) : Ran Go.Proofs.Tryz.prog (gl3 1 2 3) 3 (tupL (kvK x)) (kvV x) := chain_ran stat tk_ok tk_lot85 x (List.mem_of_getElem? h)
theorem tk_r86 [Sig] (k : Nat) (x : KV) (h : tk_l86[k]? = some x) : Ran Go.Proofs.Tryz.prog (gl3 1 2 3) 3 (tupL (kvK x)) (kvV x) := chain_ran stat tk_ok tk_lot86 x (List.mem_of_getElem? h)
theorem tk_r87 [Sig] (k : Nat) (x : KV) (h : tk_l87[k]? = some x) : Ran Go.Proofs.Tryz.prog (gl3 1 2 3) 3 (tupL (kvK x)) (kvV x) := chain_ran stat tk_ok tk_lot87 x (List.mem_of_getElem? h)
theorem tk_r88 [Sig] (k : Nat) (x : KV) (h : tk_l88[k]? = some x) : Ran Go.Proofs.Tryz.prog (gl3 1 2 3) 3 (tupL (kvK x)) (kvV x) := chain_ran stat tk_ok tk_lot88 x (List.mem_of_getElem? h)
theorem tk_r89 [Sig] (k : Nat) (x : KV) (h : tk_l89[k]? = some x) : Ran Go.Proofs.Tryz.prog (gl3 1 2 3) 3 (tupL (kvK x)) (kvV x) := chain_ran stat tk_ok tk_lot89 x (List.mem_of_getElem? h)
theorem tk_r90 [Sig] (k : Nat) (x : KV) (h : tk_l90[k]? = some x) : Ran Go.Proofs.Tryz.prog (gl3 1 2 3) 3 (tupL (kvK x)) (kvV x) := chain_ran stat tk_ok tk_lot90 x (List.mem_of_getElem? h)
theorem tk_r91 [Sig] (k : Nat) (x : KV) (h : tk_l91[k]? = some x) : Ran Go.Proofs.Tryz.prog (gl3 1 2 3) 3 (tupL (kvK x)) (kvV x) := chain_ran stat tk_ok tk_lot91 x (List.mem_of_getElem? h)
theorem tk_r92 [Sig] (k : Nat) (x : KV) (h : tk_l92[k]? = some x) : Ran Go.Proofs.Tryz.prog (gl3 1 2 3) 3 (tupL (kvK x)) (kvV x) := chain_ran stat tk_ok tk_lot92 x (List.mem_of_getElem? h)
theorem tk_r93 [Sig] (k : Nat) (x : KV) (h : tk_l93[k]? = some x) : Ran Go.Proofs.Tryz.prog (gl3 1 2 3) 3 (tupL (kvK x)) (kvV x) := chain_ran stat tk_ok tk_lot93 x (List.mem_of_getElem? h)
theorem tk_r94 [Sig] (k : Nat) (x : KV) (h : tk_l94[k]? = some x) : Ran Go.Proofs.Tryz.prog (gl3 1 2 3) 3 (tupL (kvK x)) (kvV x) := chain_ran stat tk_ok tk_lot94 x (List.mem_of_getElem? h)
theorem tk_r95 [Sig] (k : Nat) (x : KV) (h : tk_l95[k]? = some x) : Ran Go.Proofs.Tryz.prog (gl3 1 2 3) 3 (tupL (kvK x)) (kvV x) := chain_ran stat tk_ok tk_lot95 x (List.mem_of_getElem? h)
theorem tk_r96 [Sig] (k : Nat) (x : KV) (h : tk_l96[k]? = some x) : Ran Go.Proofs.Tryz.prog (gl3 1 2 3) 3 (tupL (kvK x)) (kvV x) := chain_ran stat tk_ok tk_lot96 x (List.mem_of_getElem? h)
theorem tk_r97 [Sig] (k : Nat) (x : KV) (h : tk_l97[k]? = some x) : Ran Go.Proofs.Tryz.prog (gl3 1 2 3) 3 (tupL (kvK x)) (kvV x) := chain_ran stat tk_ok tk_lot97 x (List.mem_of_getElem? h)
theorem tk_r98 [Sig] (k : Nat) (x : KV) (h : tk_l98[k]? = some x) : Ran Go.Proofs.Tryz.prog (gl3 1 2 3) 3 (tupL (kvK x)) (kvV x) := chain_ran stat tk_ok tk_lot98 x (List.mem_of_getElem? h)
theorem tk_r99 [Sig] (k : Nat) (x : KV) (h : tk_l99[k]? = some x) : Ran Go.Proofs.Tryz.prog (gl3 1 2 3) 3 (tupL (kvK x)) (kvV x) := chain_ran stat tk_ok tk_lot99 x (List.mem_of_getElem? h)
theorem tk_r100 [Sig] (k : Nat) (x : KV) (h : tk_l100[k]? = some x) : Ran Go.Proofs.Tryz.prog (gl3 1 2 3) 3 (tupL (kvK x)) (kvV x) := chain_ran stat tk_ok tk_lot100 x (List.mem_of_getElem? h)
theorem tk_r101 [Sig] (k : Nat) (x : KV) (h : tk_l101[k]? = some x) : Ran Go.Proofs.Tryz.prog (gl3 1 2 3) 3 (tupL (kvK x)) (kvV x) := chain_ran stat tk_ok tk_lot101 x (List.mem_of_getElem? h)
theorem tk_r102 [Sig] (k : Nat) (x : KV) (h : tk_l102[k]? = some x) : Ran Go.Proofs.Tryz.prog (gl3 1 2 3) 3 (tupL (kvK x)) (kvV x) := chain_ran stat tk_ok tk_lot102 x (List.mem_of_getElem? h)
theorem tk_r103 [Sig] (k : Nat) (x : KV) (h : tk_l103[k]? = some x) : Ran Go.Proofs.Tryz.prog (gl3 1 2 3) 3 (tupL (kvK x)) (kvV x) := chain_ran stat tk_ok tk_lot103 x (List.mem_of_getElem? h)
theorem tk_r104 [Sig] (k : Nat) (x : KV) (h : tk_l104[k]? = some x) : Ran Go.Proofs.Tryz.prog (gl3 1 2 3) 3 (tupL (kvK x)) (kvV x) := chain_ran stat tk_ok tk_lot104 x (List.mem_of_getElem? h)
theorem tk_r105 [Sig] (k : Nat) (x : KV) (h : tk_l105[k]? = some x) : Ran Go.Proofs.Tryz.prog (gl3 1 2 3) 3 (tupL (kvK x)) (kvV x) := chain_ran stat tk_ok tk_lot105 x (List.mem_of_getElem? h)
theorem tk_r106 [Sig] (k : Nat) (x : KV) (h : tk_l106[k]? = some x) : Ran Go.Proofs.Tryz.prog (gl3 1 2 3) 3 (tupL (kvK x)) (kvV x) := chain_ran stat tk_ok tk_lot106 x (List.mem_of_getElem? h)
theorem tk_r107 [Sig] (k : Nat) (x : KV) (h : tk_l107[k]? = some x) : Ran Go.Proofs.Tryz.prog (gl3 1 2 3) 3 (tupL (kvK x)) (kvV x) := chain_ran stat tk_ok tk_lot107 x (List.mem_of_getElem? h)
theorem tk_r108 [Sig] (k : Nat) (x : KV) (h : tk_l108[k]? = some x) : Ran Go.Proofs.Tryz.prog (gl3 1 2 3) 3 (tupL (kvK x)) (kvV x) := chain_ran stat tk_ok tk_lot108 x (List.mem_of_getElem? h)
theorem tk_r109 [Sig] (k : Nat) (x : KV) (h : tk_l109[k]? = some x) : Ran Go.Proofs.Tryz.prog (gl3 1 2 3) 3 (tupL (kvK x)) (kvV x) := chain_ran stat tk_ok tk_lot109 x (List.mem_of_getElem? h)
theorem tk_r110 [Sig] (k : Nat) (x : KV) (h : tk_l110[k]? = some x) : Ran Go.Proofs.Tryz.prog (gl3 1 2 3) 3 (tupL (kvK x)) (kvV x) := chain_ran stat tk_ok tk_lot110 x (List.mem_of_getElem? h)
theorem tk_r111 [Sig] (k : Nat) (x : KV) (h : tk_l111[k]? = some x) : Ran Go.Proofs.Tryz.prog (gl3 1 2 3) 3 (tupL (kvK x)) (kvV x) := chain_ran stat tk_ok tk_lot111 x (List.mem_of_getElem? h)
theorem tk_r112 [Sig] (k : Nat) (x : KV) (h : tk_l112[k]? = some x) : Ran Go.Proofs.Tryz.prog (gl3 1 2 3) 3 (tupL (kvK x)) (kvV x) := chain_ran stat tk_ok tk_lot112 x (List.mem_of_getElem? h)
theorem tk_r113 [Sig] (k : Nat) (x : KV) (h : tk_l113[k]? = some x) : Ran Go.Proofs.Tryz.prog (gl3 1 2 3) 3 (tupL (kvK x)) (kvV x) := chain_ran stat tk_ok tk_lot113 x (List.mem_of_getElem? h)
theorem tk_r114 [Sig] (k : Nat) (x : KV) (h : tk_l114[k]? = some x) : Ran Go.Proofs.Tryz.prog (gl3 1 2 3) 3 (tupL (kvK x)) (kvV x) := chain_ran stat tk_ok tk_lot114 x (List.mem_of_getElem? h)
theorem tk_r115 [Sig] (k : Nat) (x : KV) (h : tk_l115[k]? = some x) : Ran Go.Proofs.Tryz.prog (gl3 1 2 3) 3 (tupL (kvK x)) (kvV x) := chain_ran stat tk_ok tk_lot115 x (List.mem_of_getElem? h)
theorem tk_r116 [Sig] (k : Nat) (x : KV) (h : tk_l116[k]? = some x) : Ran Go.Proofs.Tryz.prog (gl3 1 2 3) 3 (tupL (kvK x)) (kvV x) := chain_ran stat tk_ok tk_lot116 x (List.mem_of_getElem? h)
theorem tk_r117 [Sig] (k : Nat) (x : KV) (h : tk_l117[k]? = some x) : Ran Go.Proofs.Tryz.prog (gl3 1 2 3) 3 (tupL (kvK x)) (kvV x) := chain_ran stat tk_ok tk_lot117 x (List.mem_of_getElem? h)
theorem tk_r118 [Sig] (k : Nat) (x : KV) (h : tk_l118[k]? = some x) : Ran Go.Proofs.Tryz.prog (gl3 1 2 3) 3 (tupL (kvK x)) (kvV x) := chain_ran stat tk_ok tk_lot118 x (List.mem_of_getElem? h)
theorem tk_r119 [Sig] (k : Nat) (x : KV) (h : tk_l119[k]? = some x) : Ran Go.Proofs.Tryz.prog (gl3 1 2 3) 3 (tupL (kvK x)) (kvV x) := chain_ran stat tk_ok tk_lot119 x (List.mem_of_getElem? h)
theorem tk_r120 [Sig] (k : Nat) (x : KV) (h : tk_l120[k]? = some x) : Ran Go.Proofs.Tryz.prog (gl3 1 2 3) 3 (tupL (kvK x)) (kvV x) := chain_ran stat tk_ok tk_lot120 x (List.mem_of_getElem? h)
theorem tk_r121 [Sig] (k : Nat) (x : KV) (h : tk_l121[k]? = some x) : Ran Go.Proofs.Tryz.prog (gl3 1 2 3) 3 (tupL (kvK x)) (kvV x) := chain_ran stat tk_ok tk_lot121 x (List.mem_of_getElem? h)
theorem tk_r122 [Sig] (k : Nat) (x : KV) (h : tk_l122[k]? = some x) : Ran Go.Proofs.Tryz.prog (gl3 1 2 3) 3 (tupL (kvK x)) (kvV x) := chain_ran stat tk_ok tk_lot122 x (List.mem_of_getElem? h)
theorem tk_r123 [Sig] (k : Nat) (x : KV) (h : tk_l123[k]? = some x) : Ran Go.Proofs.Tryz.prog (gl3 1 2 3) 3 (tupL (kvK x)) (kvV x) := chain_ran stat tk_ok tk_lot123 x (List.mem_of_getElem? h)
theorem tk_r124 [Sig] (k : Nat) (x : KV) (h : tk_l124[k]? = some x) : Ran Go.Proofs.Tryz.prog (gl3 1 2 3) 3 (tupL (kvK x)) (kvV x) := chain_ran stat tk_ok tk_lot124 x (List.mem_of_getElem? h)
theorem tk_r125 [Sig] (k : Nat) (x : KV) (h : tk_l125[k]? = some x) : Ran Go.Proofs.Tryz.prog (gl3 1 2 3) 3 (tupL (kvK x)) (kvV x) := chain_ran stat tk_ok tk_lot125 x (List.mem_of_getElem? h)
theorem tk_r126 [Sig] (k : Nat) (x : KV) (h : tk_l126[k]? = some x) : Ran Go.Proofs.Tryz.prog (gl3 1 2 3) 3 (tupL (kvK x)) (kvV x) := chain_ran stat tk_ok tk_lot126 x (List.mem_of_getElem? h)
theorem tk_r127 [Sig] (k : Nat) (x : KV) (h : tk_l127[k]? = some x) : Ran Go.Proofs.Tryz.prog (gl3 1 2 3) 3 (tupL (kvK x)) (kvV x) := chain_ran stat tk_ok tk_lot127 x (List.mem_of_getElem? h)
theorem tk_r128 [Sig] (k : Nat) (x : KV) (h : tk_l128[k]? = some x) : Ran Go.Proofs.Tryz.prog (gl3 1 2 3) 3 (tupL (kvK x)) (kvV x) := chain_ran stat tk_ok tk_lot128 x (List.mem_of_getElem? h)
theorem tk_r129 [Sig] (k : Nat) (x : KV) (h : tk_l129[k]? = some x) : Ran Go.Proofs.Tryz.prog (gl3 1 2 3) 3 (tupL (kvK x)) (kvV x) := chain_ran stat tk_ok tk_lot129 x (List.mem_of_getElem? h)
theorem tk_r130 [Sig] (k : Nat) (x : KV) (h : tk_l130[k]? = some x) : Ran Go.Proofs.Tryz.prog (gl3 1 2 3) 3 (tupL (kvK x)) (kvV x) := chain_ran stat tk_ok tk_lot130 x (List.mem_of_getElem? h)
theorem tk_r131 [Sig] (k : Nat) (x : KV) (h : tk_l131[k]? = some x) : Ran Go.Proofs.Tryz.prog (gl3 1 2 3) 3 (tupL (kvK x)) (kvV x) := chain_ran stat tk_ok tk_lot131 x (List.mem_of_getElem? h)
theorem tk_r132 [Sig] (k : Nat) (x : KV) (h : tk_l132[k]? = some x) : Ran Go.Proofs.Tryz.prog (gl3 1 2 3) 3 (tupL (kvK x)) (kvV x) := chain_ran stat tk_ok tk_lot132 x (List.mem_of_getElem? h)
theorem tk_r133 [Sig] (k : Nat) (x : KV) (h : tk_l133[k]? = some x) : Ran Go.Proofs.Tryz.prog (gl3 1 2 3) 3 (tupL (kvK x)) (kvV x) := chain_ran stat tk_ok tk_lot133 x (List.mem_of_getElem? h)
theorem tk_r134 [Sig] (k : Nat) (x : KV) (h : tk_l134[k]? = some x) : Ran Go.Proofs.Tryz.prog (gl3 1 2 3) 3 (tupL (kvK x)) (kvV x) := chain_ran stat tk_ok tk_lot134 x (List.mem_of_getElem? h)
theorem tk_r135 [Sig] (k : Nat) (x : KV) (h : tk_l135[k]? = some x) : Ran Go.Proofs.Tryz.prog (gl3 1 2 3) 3 (tupL (kvK x)) (kvV x) := chain_ran stat tk_ok tk_lot135 x (List.mem_of_getElem? h)
theorem tk_r136 [Sig] (k : Nat) (x : KV) (h : tk_l136[k]? = some x) : Ran Go.Proofs.Tryz.prog (gl3 1 2 3) 3 (tupL (kvK x)) (kvV x) := chain_ran stat tk_ok tk_lot136 x (List.mem_of_getElem? h)
theorem tk_r137 [Sig] (k : Nat) (x : KV) (h : tk_l137[k]? = some x) : Ran Go.Proofs.Tryz.prog (gl3 1 2 3) 3 (tupL (kvK x)) (kvV x) := chain_ran stat tk_ok tk_lot137 x (List.mem_of_getElem? h)
theorem tk_r138 [Sig] (k : Nat) (x : KV) (h : tk_l138[k]? = some x) : Ran Go.Proofs.Tryz.prog (gl3 1 2 3) 3 (tupL (kvK x)) (kvV x) := chain_ran stat tk_ok tk_lot138 x (List.mem_of_getElem? h)
theorem tk_r139 [Sig] (k : Nat) (x : KV) (h : tk_l139[k]? = some x) : Ran Go.Proofs.Tryz.prog (gl3 1 2 3) 3 (tupL (kvK x)) (kvV x) := chain_ran stat tk_ok tk_lot139 x (List.mem_of_getElem? h)
theorem tk_r140 [Sig] (k : Nat) (x : KV) (h : tk_l140[k]? = some x) : Ran Go.Proofs.Tryz.prog (gl3 1 2 3) 3 (tupL (kvK x)) (kvV x) := chain_ran stat tk_ok tk_lot140 x (List.mem_of_getElem? h)
theorem tk_r141 [Sig] (k : Nat) (x : KV) (h : tk_l141[k]? = some x) : Ran Go.Proofs.Tryz.prog (gl3 1 2 3) 3 (tupL (kvK x)) (kvV x) := chain_ran stat tk_ok tk_lot141 x (List.mem_of_getElem? h)
theorem tk_r142 [Sig] (k : Nat) (x : KV) (h : tk_l142[k]? = some x) : Ran Go.Proofs.Tryz.prog (gl3 1 2 3) 3 (tupL (kvK x)) (kvV x) := chain_ran stat tk_ok tk_lot142 x (List.mem_of_getElem? h)
theorem tk_r143 [Sig] (k : Nat) (x : KV) (h : tk_l143[k]? = some x) : Ran Go.Proofs.Tryz.prog (gl3 1 2 3) 3 (tupL (kvK x)) (kvV x) := chain_ran stat tk_ok tk_lot143 x (List.mem_of_getElem? h)
theorem tk_r144 [Sig] (k : Nat) (x : KV) (h : tk_l144[k]? = some x) : Ran Go.Proofs.Tryz.prog (gl3 1 2 3) 3 (tupL (kvK x)) (kvV x) := chain_ran stat tk_ok tk_lot144 x (List.mem_of_getElem? h)
theorem tk_r145 [Sig] (k : Nat) (x : KV) (h : tk_l145[k]? = some x) : Ran Go.Proofs.Tryz.prog (gl3 1 2 3) 3 (tupL (kvK x)) (kvV x) := chain_ran stat tk_ok tk_lot145 x (List.mem_of_getElem? h)
theorem tk_r146 [Sig] (k : Nat) (x : KV) (h : tk_l146[k]? = some x) : Ran Go.Proofs.Tryz.prog (gl3 1 2 3) 3 (tupL (kvK x)) (kvV x) := chain_ran stat tk_ok tk_lot146 x (List.mem_of_getElem? h)
theorem tk_r147 [Sig] (k : Nat) (x : KV) (h : tk_l147[k]? = some x) : Ran Go.Proofs.Tryz.prog (gl3 1 2 3) 3 (tupL (kvK x)) (kvV x) := chain_ran stat tk_ok tk_lot147 x (List.mem_of_getElem? h)
theorem tk_r148 [Sig] (k : Nat) (x : KV) (h : tk_l148[k]? = some x) : Ran Go.Proofs.Tryz.prog (gl3 1 2 3) 3 (tupL (kvK x)) (kvV x) := chain_ran stat tk_ok tk_lot148 x (List.mem_of_getElem? h)
theorem tk_r149 [Sig] (k : Nat) (x : KV) (h : tk_l149[k]? = some x) : Ran Go.Proofs.Tryz.prog (gl3 1 2 3) 3 (tupL (kvK x)) (kvV x) := chain_ran stat tk_ok tk_lot149 x (List.mem_of_getElem? h)
theorem tk_r150 [Sig] (k : Nat) (x : KV) (h : tk_l150[k]? = some x) : Ran Go.Proofs.Tryz.prog (gl3 1 2 3) 3 (tupL (kvK x)) (kvV x) := chain_ran stat tk_ok tk_lot150 x (List.mem_of_getElem? h)
theorem tk_r151 [Sig] (k : Nat) (x : KV) (h : tk_l151[k]? = some x) : Ran Go.Proofs.Tryz.prog (gl3 1 2 3) 3 (tupL (kvK x)) (kvV x) := chain_ran stat tk_ok tk_lot151 x (List.mem_of_getElem? h)
theorem tk_r152 [Sig] (k : Nat) (x : KV) (h : tk_l152[k]? = some x) : Ran Go.Proofs.Tryz.prog (gl3 1 2 3) 3 (tupL (kvK x)) (kvV x) := chain_ran stat tk_ok tk_lot152 x (List.mem_of_getElem? h)
theorem tk_r153 [Sig] (k : Nat) (x : KV) (h : tk_l153[k]? = some x) : Ran Go.Proofs.Tryz.prog (gl3 1 2 3) 3 (tupL (kvK x)) (kvV x) := chain_ran stat tk_ok tk_lot153 x (List.mem_of_getElem? h)
theorem tk_r154 [Sig] (k : Nat) (x : KV) (h : tk_l154[k]? = some x) : Ran Go.Proofs.Tryz.prog (gl3 1 2 3) 3 (tupL (kvK x)) (kvV x) := chain_ran stat tk_ok tk_lot154 x (List.mem_of_getElem? h)
theorem tk_r155 [Sig] (k : Nat) (x : KV) (h : tk_l155[k]? = some x) : Ran Go.Proofs.Tryz.prog (gl3 1 2 3) 3 (tupL (kvK x)) (kvV x) := chain_ran stat tk_ok tk_lot155 x (List.mem_of_getElem? h)
theorem tk_r156 [Sig] (k : Nat) (x : KV) (h : tk_l156[k]? = some x) : Ran Go.Proofs.Tryz.prog (gl3 1 2 3) 3 (tupL (kvK x)) (kvV x) := chain_ran stat tk_ok tk_lot156 x (List.mem_of_getElem? h)
theorem tk_r157 [Sig] (k : Nat) (x : KV) (h : tk_l157[k]? = some x) : Ran Go.Proofs.Tryz.prog (gl3 1 2 3) 3 (tupL (kvK x)) (kvV x) := chain_ran stat tk_ok tk_lot157 x (List.mem_of_getElem? h)
theorem tk_r158 [Sig] (k : Nat) (x : KV) (h : tk_l158[k]? = some x) : Ran Go.Proofs.Tryz.prog (gl3 1 2 3) 3 (tupL (kvK x)) (kvV x) := chain_ran stat tk_ok tk_lot158 x (List.mem_of_getElem? h)
theorem tk_r159 [Sig] (k : Nat) (x : KV) (h : tk_l159[k]? = some x) : Ran Go.Proofs.Tryz.prog (gl3 1 2 3) 3 (tupL (kvK x)) (kvV x) := chain_ran stat tk_ok tk_lot159 x (List.mem_of_getElem? h)
theorem tk_r160 [Sig] (k : Nat) (x : KV) (h : tk_l160[k]? = some x) : Ran Go.Proofs.Tryz.prog (gl3 1 2 3) 3 (tupL (kvK x)) (kvV x) := chain_ran stat tk_ok tk_lot160 x (List.mem_of_getElem? h)
theorem tk_r161 [Sig] (k : Nat) (x : KV) (h : tk_l161[k]? = some x) : Ran Go.Proofs.Tryz.prog (gl3 1 2 3) 3 (tupL (kvK x)) (kvV x) := chain_ran stat tk_ok tk_lot161 x (List.mem_of_getElem? h)
theorem tk_r162 [Sig] (k : Nat) (x : KV) (h : tk_l162[k]? = some x) : Ran Go.Proofs.Tryz.prog (gl3 1 2 3) 3 (tupL (kvK x)) (kvV x) := chain_ran stat tk_ok tk_lot162 x (List.mem_of_getElem? h)
theorem tk_r163 [Sig] (k : Nat) (x : KV) (h : tk_l163[k]? = some x) : Ran Go.Proofs.Tryz.prog (gl3 1 2 3) 3 (tupL (kvK x)) (kvV x) := chain_ran stat tk_ok tk_lot163 x (List.mem_of_getElem? h)
theorem tk_r164 [Sig] (k : Nat) (x : KV) (h : tk_l164[k]? = some x) : Ran Go.Proofs.Tryz.prog (gl3 1 2 3) 3 (tupL (kvK x)) (kvV x) := chain_ran stat tk_ok tk_lot164 x (List.mem_of_getElem? h)
theorem tk_r165 [Sig] (k : Nat) (x : KV) (h : tk_l165[k]? = some x) : Ran Go.Proofs.Tryz.prog (gl3 1 2 3) 3 (tupL (kvK x)) (kvV x) := chain_ran stat tk_ok tk_lot165 x (List.mem_of_getElem? h)
theorem tk_r166 [Sig] (k : Nat) (x : KV) (h : tk_l166[k]? = some x) : Ran Go.Proofs.Tryz.prog (gl3 1 2 3) 3 (tupL (kvK x)) (kvV x) := chain_ran stat tk_ok tk_lot166 x (List.mem_of_getElem? h)
theorem tk_r167 [Sig] (k : Nat) (x : KV) (h : tk_l167[k]? = some x) : Ran Go.Proofs.Tryz.prog (gl3 1 2 3) 3 (tupL (kvK x)) (kvV x) := chain_ran stat tk_ok tk_lot167 x (List.mem_of_getElem? h)
theorem tk_r168 [Sig] (k : Nat) (x : KV) (h : tk_l168[k]? = some x) : Ran Go.Proofs.Tryz.prog (gl3 1 2 3) 3 (tupL (kvK x)) (kvV x) := chain_ran stat tk_ok tk_lot168 x (List.mem_of_getElem? h)
theorem tk_r169 [Sig] (k : Nat) (x : KV) (h : tk_l169[k]? = some x) : Ran Go.Proofs.Tryz.prog (gl3 1 2 3) 3 (tupL (kvK x)) (kvV x) := chain_ran stat tk_ok tk_lot169 x (List.mem_of_getElem? h)
theorem tk_r170 [Sig] (k : Nat) (x : KV) (h : tk_l170[k]? = some x) : Ran Go.Proofs.Tryz.prog (gl3 1 2 3) 3 (tupL (kvK x)) (kvV x) := chain_ran stat tk_ok tk_lot170 x (List.mem_of_getElem? h)
theorem tk_r171 [Sig] (k : Nat) (x : KV) (h : tk_l171[k]? = some x) : Ran Go.Proofs.Tryz.prog (gl3 1 2 3) 3 (tupL (kvK x)) (kvV x) := chain_ran stat tk_ok tk_lot171 x (List.mem_of_getElem? h)
theorem tk_r172 [Sig] (k : Nat) (x : KV) (h : tk_l172[k]? = some x) : Ran Go.Proofs.Tryz.prog (gl3 1 2 3) 3 (tupL (kvK x)) (kvV x) := chain_ran stat tk_ok tk_lot172 x (List.mem_of_getElem? h)
theorem tk_r173 [Sig] (k : Nat) (x : KV) (h : tk_l173[k]? = some x) : Ran Go.Proofs.Tryz.prog (gl3 1 2 3) 3 (tupL (kvK x)) (kvV x) := chain_ran stat tk_ok tk_lot173 x (List.mem_of_getElem? h)
theorem tk_r174 [Sig] (k : Nat) (x : KV) (h : tk_l174[k]? = some x) : Ran Go.Proofs.Tryz.prog (gl3 1 2 3) 3 (tupL (kvK x)) (kvV x) := chain_ran stat tk_ok tk_lot174 x (List.mem_of_getElem? h)
theorem tk_r175 [Sig] (k : Nat) (x : KV) (h : tk_l175[k]? = some x) : Ran Go.Proofs.Tryz.prog (gl3 1 2 3) 3 (tupL (kvK x)) (kvV x) := chain_ran stat tk_ok tk_lot175 x (List.mem_of_getElem? h)
theorem tk_r176 [Sig] (k : Nat) (x : KV) (h : tk_l176[k]? = some x) : Ran Go.Proofs.Tryz.prog (gl3 1 2 3) 3 (tupL (kvK x)) (kvV x) := chain_ran stat tk_ok tk_lot176 x (List.mem_of_getElem? h)
theorem tk_r177 [Sig] (k : Nat) (x : KV) (h : tk_l177[k]? = some x) : Ran Go.Proofs.Tryz.prog (gl3 1 2 3) 3 (tupL (kvK x)) (kvV x) := chain_ran stat tk_ok tk_lot177 x (List.mem_of_getElem? h)
theorem tk_r178 [Sig] (k : Nat) (x : KV) (h : tk_l178[k]? = some x) : Ran Go.Proofs.Tryz.prog (gl3 1 2 3) 3 (tupL (kvK x)) (kvV x) := chain_ran stat tk_ok tk_lot178 x (List.mem_of_getElem? h)
theorem tk_r179 [Sig] (k : Nat) (x : KV) (h : tk_l179[k]? = some x) : Ran Go.Proofs.Tryz.prog (gl3 1 2 3) 3 (tupL (kvK x)) (kvV x) := chain_ran stat tk_ok tk_lot179 x (List.mem_of_getElem? h)
theorem tk_r180 [Sig] (k : Nat) (x : KV) (h : tk_l180[k]? = some x) : Ran Go.Proofs.Tryz.prog (gl3 1 2 3) 3 (tupL (kvK x)) (kvV x) := chain_ran stat tk_ok tk_lot180 x (List.mem_of_getElem? h)
theorem tk_r181 [Sig] (k : Nat) (x : KV) (h : tk_l181[k]? = some x) : Ran Go.Proofs.Tryz.prog (gl3 1 2 3) 3 (tupL (kvK x)) (kvV x) := chain_ran stat tk_ok tk_lot181 x (List.mem_of_getElem? h)
theorem tk_r182 [Sig] (k : Nat) (x : KV) (h : tk_l182[k]? = some x) : Ran Go.Proofs.Tryz.prog (gl3 1 2 3) 3 (tupL (kvK x)) (kvV x) := chain_ran stat tk_ok tk_lot182 x (List.mem_of_getElem? h)
theorem tk_r183 [Sig] (k : Nat) (x : KV) (h : tk_l183[k]? = some x) : Ran Go.Proofs.Tryz.prog (gl3 1 2 3) 3 (tupL (kvK x)) (kvV x) := chain_ran stat tk_ok tk_lot183 x (List.mem_of_getElem? h)
theorem tk_r184 [Sig] (k : Nat) (x : KV) (h : tk_l184[k]? = some x) : Ran Go.Proofs.Tryz.prog (gl3 1 2 3) 3 (tupL (kvK x)) (kvV x) := chain_ran stat tk_ok tk_lot184 x (List.mem_of_getElem? h)
theorem tk_r185 [Sig] (k : Nat) (x : KV) (h : tk_l185[k]? = some x) : Ran Go.Proofs.Tryz.prog (gl3 1 2 3) 3 (tupL (kvK x)) (kvV x) := chain_ran stat tk_ok tk_lot185 x (List.mem_of_getElem? h)
theorem tk_r186 [Sig] (k : Nat) (x : KV) (h : tk_l186[k]? = some x) : Ran Go.Proofs.Tryz.prog (gl3 1 2 3) 3 (tupL (kvK x)) (kvV x) := chain_ran stat tk_ok tk_lot186 x (List.mem_of_getElem? h)
theorem tk_r187 [Sig] (k : Nat) (x : KV) (h : tk_l187[k]? = some x) : Ran Go.Proofs.Tryz.prog (gl3 1 2 3) 3 (tupL (kvK x)) (kvV x) := chain_ran stat tk_ok tk_lot187 x (List.mem_of_getElem? h)
theorem tk_r188 [Sig] (k : Nat) (x : KV) (h : tk_l188[k]? = some x) : Ran Go.Proofs.Tryz.prog (gl3 1 2 3) 3 (tupL (kvK x)) (kvV x) := chain_ran stat tk_ok tk_lot188 x (List.mem_of_getElem? h)
theorem tk_r189 [Sig] (k : Nat) (x : KV) (h : tk_l189[k]? = some x) : Ran Go.Proofs.Tryz.prog (gl3 1 2 3) 3 (tupL (kvK x)) (kvV x) := chain_ran stat tk_ok tk_lot189 x (List.mem_of_getElem? h)
theorem tk_r190 [Sig] (k : Nat) (x : KV) (h : tk_l190[k]? = some x) : Ran Go.Proofs.Tryz.prog (gl3 1 2 3) 3 (tupL (kvK x)) (kvV x) := chain_ran stat tk_ok tk_lot190 x (List.mem_of_getElem? h)
theorem tk_r191 [Sig] (k : Nat) (x : KV) (h : tk_l191[k]? = some x) : Ran Go.Proofs.Tryz.prog (gl3 1 2 3) 3 (tupL (kvK x)) (kvV x) := chain_ran stat tk_ok tk_lot191 x (List.mem_of_getElem? h)
theorem tk_r192 [Sig] (k : Nat) (x : KV) (h : tk_l192[k]? = some x) : Ran Go.Proofs.Tryz.prog (gl3 1 2 3) 3 (tupL (kvK x)) (kvV x) := chain_ran stat tk_ok tk_lot192 x (List.mem_of_getElem? h)
theorem tk_r193 [Sig] (k : Nat) (x : KV) (h : tk_l193[k]? = some x) : Ran Go.Proofs.Tryz.prog (gl3 1 2 3) 3 (tupL (kvK x)) (kvV x) := chain_ran stat tk_ok tk_lot193 x (List.mem_of_getElem? h)
theorem tk_r194 [Sig] (k : Nat) (x : KV) (h : tk_l194[k]? = some x) : Ran Go.Proofs.Tryz.prog (gl3 1 2 3) 3 (tupL (kvK x)) (kvV x) := chain_ran stat tk_ok tk_lot194 x (List.mem_of_getElem? h)
theorem tk_r195 [Sig] (k : Nat) (x : KV) (h : tk_l195[k]? = some x) : Ran Go.Proofs.Tryz.prog (gl3 1 2 3) 3 (tupL (kvK x)) (kvV x) := chain_ran stat tk_ok tk_lot195 x (List.mem_of_getElem? h)
theorem tk_r196 [Sig] (k : Nat) (x : KV) (h : tk_l196[k]? = some x) : Ran Go.Proofs.Tryz.prog (gl3 1 2 3) 3 (tupL (kvK x)) (kvV x) := chain_ran stat tk_ok tk_lot196 x (List.mem_of_getElem? h)
theorem tk_r197 [Sig] (k : Nat) (x : KV) (h : tk_l197[k]? = some x) : Ran Go.Proofs.Tryz.prog (gl3 1 2 3) 3 (tupL (kvK x)) (kvV x) := chain_ran stat tk_ok tk_lot197 x (List.mem_of_getElem? h)
theorem tk_r198 [Sig] (k : Nat) (x : KV) (h : tk_l198[k]? = some x) : Ran Go.Proofs.Tryz.prog (gl3 1 2 3) 3 (tupL (kvK x)) (kvV x) := chain_ran stat tk_ok tk_lot198 x (List.mem_of_getElem? h)
theorem tk_r199 [Sig] (k : Nat) (x : KV) (h : tk_l199[k]? = some x) : Ran Go.Proofs.Tryz.prog (gl3 1 2 3) 3 (tupL (kvK x)) (kvV x) := chain_ran stat tk_ok tk_lot199 x (List.mem_of_getElem? h)
theorem tk_r200 [Sig] (k : Nat) (x : KV) (h : tk_l200[k]? = some x) : Ran Go.Proofs.Tryz.prog (gl3 1 2 3) 3 (tupL (kvK x)) (kvV x) := chain_ran stat tk_ok tk_lot200 x (List.mem_of_getElem? h)
theorem tk_r201 [Sig] (k : Nat) (x : KV) (h : tk_l201[k]? = some x) : Ran Go.Proofs.Tryz.prog (gl3 1 2 3) 3 (tupL (kvK x)) (kvV x) := chain_ran stat tk_ok tk_lot201 x (List.mem_of_getElem? h)
theorem tk_r202 [Sig] (k : Nat) (x : KV) (h : tk_l202[k]? = some x) : Ran Go.Proofs.Tryz.prog (gl3 1 2 3) 3 (tupL (kvK x)) (kvV x) := chain_ran stat tk_ok tk_lot202 x (List.mem_of_getElem? h)
theorem tk_r203 [Sig] (k : Nat) (x : KV) (h : tk_l203[k]? = some x) : Ran Go.Proofs.Tryz.prog (gl3 1 2 3) 3 (tupL (kvK x)) (kvV x) := chain_ran stat tk_ok tk_lot203 x (List.mem_of_getElem? h)
theorem tk_r204 [Sig] (k : Nat) (x : KV) (h : tk_l204[k]? = some x) : Ran Go.Proofs.Tryz.prog (gl3 1 2 3) 3 (tupL (kvK x)) (kvV x) := chain_ran stat tk_ok tk_lot204 x (List.mem_of_getElem? h)
theorem tk_r205 [Sig] (k : Nat) (x : KV) (h : tk_l205[k]? = some x) : Ran Go.Proofs.Tryz.prog (gl3 1 2 3) 3 (tupL (kvK x)) (kvV x) := chain_ran stat tk_ok tk_lot205 x (List.mem_of_getElem? h)
theorem tk_r206 [Sig] (k : Nat) (x : KV) (h : tk_l206[k]? = some x) : Ran Go.Proofs.Tryz.prog (gl3 1 2 3) 3 (tupL (kvK x)) (kvV x) := chain_ran stat tk_ok tk_lot206 x (List.mem_of_getElem? h)
theorem tk_r207 [Sig] (k : Nat) (x : KV) (h : tk_l207[k]? = some x) : Ran Go.Proofs.Tryz.prog (gl3 1 2 3) 3 (tupL (kvK x)) (kvV x) := chain_ran stat tk_ok tk_lot207 x (List.mem_of_getElem? h)
theorem tk_r208 [Sig] (k : Nat) (x : KV) (h : tk_l208[k]? = some x) : Ran Go.Proofs.Tryz.prog (gl3 1 2 3) 3 (tupL (kvK x)) (kvV x) := chain_ran stat tk_ok tk_lot208 x (List.mem_of_getElem? h)
theorem tk_r209 [Sig] (k : Nat) (x : KV) (h : tk_l209[k]? = some x) : Ran Go.Proofs.Tryz.prog (gl3 1 2 3) 3 (tupL (kvK x)) (kvV x) := chain_ran stat tk_ok tk_lot209 x (List.mem_of_getElem? h)
theorem tk_r210 [Sig] (k : Nat) (x : KV) (h : tk_l210[k]? = some x) : Ran Go.Proofs.Tryz.prog (gl3 1 2 3) 3 (tupL (kvK x)) (kvV x) := chain_ran stat tk_ok tk_lot210 x (List.mem_of_getElem? h)
theorem tk_r211 [Sig] (k : Nat) (x : KV) (h : tk_l211[k]? = some x) : Ran Go.Proofs.Tryz.prog (gl3 1 2 3) 3 (tupL (kvK x)) (kvV x) := chain_ran stat tk_ok tk_lot211 x (List.mem_of_getElem? h)
theorem tk_r212 [Sig] (k : Nat) (x : KV) (h : tk_l212[k]? = some x) : Ran Go.Proofs.Tryz.prog (gl3 1 2 3) 3 (tupL (kvK x)) (kvV x) := chain_ran stat tk_ok tk_lot212 x (List.mem_of_getElem? h)
theorem tk_r213 [Sig] (k : Nat) (x : KV) (h : tk_l213[k]? = some x) : Ran Go.Proofs.Tryz.prog (gl3 1 2 3) 3 (tupL (kvK x)) (kvV x) := chain_ran stat tk_ok tk_lot213 x (List.mem_of_getElem? h)
theorem tk_r214 [Sig] (k : Nat) (x : KV) (h : tk_l214[k]? = some x) : Ran Go.Proofs.Tryz.prog (gl3 1 2 3) 3 (tupL (kvK x)) (kvV x) := chain_ran stat tk_ok tk_lot214 x (List.mem_of_getElem? h)
theorem tk_r215 [Sig] (k : Nat) (x : KV) (h : tk_l215[k]? = some x) : Ran Go.Proofs.Tryz.prog (gl3 1 2 3) 3 (tupL (kvK x)) (kvV x) := chain_ran stat tk_ok tk_lot215 x (List.mem_of_getElem? h)
theorem tk_r216 [Sig] (k : Nat) (x : KV) (h : tk_l216[k]? = some x) : Ran Go.Proofs.Tryz.prog (gl3 1 2 3) 3 (tupL (kvK x)) (kvV x) := chain_ran stat tk_ok tk_lot216 x (List.mem_of_getElem? h)
theorem tk_r217 [Sig] (k : Nat) (x : KV) (h : tk_l217[k]? = some x) : Ran Go.Proofs.Tryz.prog (gl3 1 2 3) 3 (tupL (kvK x)) (kvV x) := chain_ran stat tk_ok tk_lot217 x (List.mem_of_getElem? h)
theorem tk_r218 [Sig] (k : Nat) (x : KV) (h : tk_l218[k]? = some x) : Ran Go.Proofs.Tryz.prog (gl3 1 2 3) 3 (tupL (kvK x)) (kvV x) := chain_ran stat tk_ok tk_lot218 x (List.mem_of_getElem? h)
theorem tk_r219 [Sig] (k : Nat) (x : KV) (h : tk_l219[k]? = some x) : Ran Go.Proofs.Tryz.prog (gl3 1 2 3) 3 (tupL (kvK x)) (kvV x) := chain_ran stat tk_ok tk_lot219 x (List.mem_of_getElem? h)
theorem tk_r220 [Sig] (k : Nat) (x : KV) (h : tk_l220[k]? = some x) : Ran Go.Proofs.Tryz.prog (gl3 1 2 3) 3 (tupL (kvK x)) (kvV x) := chain_ran stat tk_ok tk_lot220 x (List.mem_of_getElem? h)
theorem tk_r221 [Sig] (k : Nat) (x : KV) (h : tk_l221[k]? = some x) : Ran Go.Proofs.Tryz.prog (gl3 1 2 3) 3 (tupL (kvK x)) (kvV x) := chain_ran stat tk_ok tk_lot221 x (List.mem_of_getElem? h)
theorem tk_r222 [Sig] (k : Nat) (x : KV) (h : tk_l222[k]? = some x) : Ran Go.Proofs.Tryz.prog (gl3 1 2 3) 3 (tupL (kvK x)) (kvV x) := chain_ran stat tk_ok tk_lot222 x (List.mem_of_getElem? h)
theorem tk_r223 [Sig] (k : Nat) (x : KV) (h : tk_l223[k]? = some x) : Ran Go.Proofs.Tryz.prog (gl3 1 2 3) 3 (tupL (kvK x)) (kvV x) := chain_ran stat tk_ok tk_lot223 x (List.mem_of_getElem? h)
theorem tk_r224 [Sig] (k : Nat) (x : KV) (h : tk_l224[k]? = some x) : Ran Go.Proofs.Tryz.prog (gl3 1 2 3) 3 (tupL (kvK x)) (kvV x) := chain_ran stat tk_ok tk_lot224 x (List.mem_of_getElem? h)
theorem tk_r225 [Sig] (k : Nat) (x : KV) (h : tk_l225[k]? = some x) : Ran Go.Proofs.Tryz.prog (gl3 1 2 3) 3 (tupL (kvK x)) (kvV x) := chain_ran stat tk_ok tk_lot225 x (List.mem_of_getElem? h)
theorem tk_r226 [Sig] (k : Nat) (x : KV) (h : tk_l226[k]? = some x) : Ran Go.Proofs.Tryz.prog (gl3 1 2 3) 3 (tupL (kvK x)) (kvV x) := chain_ran stat tk_ok tk_lot226 x (List.mem_of_getElem? h)
theorem tk_r227 [Sig] (k : Nat) (x : KV) (h : tk_l227[k]? = some x) : Ran Go.Proofs.Tryz.prog (gl3 1 2 3) 3 (tupL (kvK x)) (kvV x) := chain_ran stat tk_ok tk_lot227 x (List.mem_of_getElem? h)
theorem tk_r228 [Sig] (k : Nat) (x : KV) (h : tk_l228[k]? = some x) : Ran Go.Proofs.Tryz.prog (gl3 1 2 3) 3 (tupL (kvK x)) (kvV x) := chain_ran stat tk_ok tk_lot228 x (List.mem_of_getElem? h)
theorem tk_r229 [Sig] (k : Nat) (x : KV) (h : tk_l229[k]? = some x) : Ran Go.Proofs.Tryz.prog (gl3 1 2 3) 3 (tupL (kvK x)) (kvV x) := chain_ran stat tk_ok tk_lot229 x (List.mem_of_getElem? h)
theorem tk_r230 [Sig] (k : Nat) (x : KV) (h : tk_l230[k]? = some x) : Ran Go.Proofs.Tryz.prog (gl3 1 2 3) 3 (tupL (kvK x)) (kvV x) := chain_ran stat tk_ok tk_lot230 x (List.mem_of_getElem? h)
theorem tk_r231 [Sig] (k : Nat) (x : KV) (h : tk_l231[k]? = some x) : Ran Go.Proofs.Tryz.prog (gl3 1 2 3) 3 (tupL (kvK x)) (kvV x) := chain_ran stat tk_ok tk_lot231 x (List.mem_of_getElem? h)
theorem tk_r232 [Sig] (k : Nat) (x : KV) (h : tk_l232[k]? = some x) : Ran Go.Proofs.Tryz.prog (gl3 1 2 3) 3 (tupL (kvK x)) (kvV x) := chain_ran stat tk_ok tk_lot232 x (List.mem_of_getElem? h)
theorem tk_r233 [Sig] (k : Nat) (x : KV) (h : tk_l233[k]? = some x) : Ran Go.Proofs.Tryz.prog (gl3 1 2 3) 3 (tupL (kvK x)) (kvV x) := chain_ran stat tk_ok tk_lot233 x (List.mem_of_getElem? h)
theorem tk_r234 [Sig] (k : Nat) (x : KV) (h : tk_l234[k]? = some x) : Ran Go.Proofs.Tryz.prog (gl3 1 2 3) 3 (tupL (kvK x)) (kvV x) := chain_ran stat tk_ok tk_lot234 x (List.mem_of_getElem? h)
theorem tk_r235 [Sig] (k : Nat) (x : KV) (h : tk_l235[k]? = some x) : Ran Go.Proofs.Tryz.prog (gl3 1 2 3) 3 (tupL (kvK x)) (kvV x) := chain_ran stat tk_ok tk_lot235 x (List.mem_of_getElem? h)
theorem tk_r236 [Sig] (k : Nat) (x : KV) (h : tk_l236[k]? = some x) : Ran Go.Proofs.Tryz.prog (gl3 1 2 3) 3 (tupL (kvK x)) (kvV x) := chain_ran stat tk_ok tk_lot236 x (List.mem_of_getElem? h)
theorem tk_r237 [Sig] (k : Nat) (x : KV) (h : tk_l237[k]? = some x) : Ran Go.Proofs.Tryz.prog (gl3 1 2 3) 3 (tupL (kvK x)) (kvV x) := chain_ran stat tk_ok tk_lot237 x (List.mem_of_getElem? h)
theorem tk_r238 [Sig] (k : Nat) (x : KV) (h : tk_l238[k]? = some x) : Ran Go.Proofs.Tryz.prog (gl3 1 2 3) 3 (tupL (kvK x)) (kvV x) := chain_ran stat tk_ok tk_lot238 x (List.mem_of_getElem? h)
theorem tk_r239 [Sig] (k : Nat) (x : KV) (h : tk_l239[k]? = some x) : Ran Go.Proofs.Tryz.prog (gl3 1 2 3) 3 (tupL (kvK x)) (kvV x) := chain_ran stat tk_ok tk_lot239 x (List.mem_of_getElem? h)
theorem tk_r240 [Sig] (k : Nat) (x : KV) (h : tk_l240[k]? = some x) : Ran Go.Proofs.Tryz.prog (gl3 1 2 3) 3 (tupL (kvK x)) (kvV x) := chain_ran stat tk_ok tk_lot240 x (List.mem_of_getElem? h)
theorem tk_r241 [Sig] (k : Nat) (x : KV) (h : tk_l241[k]? = some x) : Ran Go.Proofs.Tryz.prog (gl3 1 2 3) 3 (tupL (kvK x)) (kvV x) := chain_ran stat tk_ok tk_lot241 x (List.mem_of_getElem? h)
theorem tk_r242 [Sig] (k : Nat) (x : KV) (h : tk_l242[k]? = some x) : Ran Go.Proofs.Tryz.prog (gl3 1 2 3) 3 (tupL (kvK x)) (kvV x) := chain_ran stat tk_ok tk_lot242 x (List.mem_of_getElem? h)
theorem tk_r243 [Sig] (k : Nat) (x : KV) (h : tk_l243[k]? = some x) : Ran Go.Proofs.Tryz.prog (gl3 1 2 3) 3 (tupL (kvK x)) (kvV x) := chain_ran stat tk_ok tk_lot243 x (List.mem_of_getElem? h)
theorem tk_r244 [Sig] (k : Nat) (x : KV) (h : tk_l244[k]? = some x) : Ran Go.Proofs.Tryz.prog (gl3 1 2 3) 3 (tupL (kvK x)) (kvV x) := chain_ran stat tk_ok tk_lot244 x (List.mem_of_getElem? h)
theorem tk_r245 [Sig] (k : Nat) (x : KV) (h : tk_l245[k]? = some x) : Ran Go.Proofs.Tryz.prog (gl3 1 2 3) 3 (tupL (kvK x)) (kvV x) := chain_ran stat tk_ok tk_lot245 x (List.mem_of_getElem? h)
theorem tk_r246 [Sig] (k : Nat) (x : KV) (h : tk_l246[k]? = some x) : Ran Go.Proofs.Tryz.prog (gl3 1 2 3) 3 (tupL (kvK x)) (kvV x) := chain_ran stat tk_ok tk_lot246 x (List.mem_of_getElem? h)
theorem tk_r247 [Sig] (k : Nat) (x : KV) (h : tk_l247[k]? = some x) : Ran Go.Proofs.Tryz.prog (gl3 1 2 3) 3 (tupL (kvK x)) (kvV x) := chain_ran stat tk_ok tk_lot247 x (List.mem_of_getElem? h)
theorem tk_r248 [Sig] (k : Nat) (x : KV) (h : tk_l248[k]? = some x) : Ran Go.Proofs.Tryz.prog (gl3 1 2 3) 3 (tupL (kvK x)) (kvV x) := chain_ran stat tk_ok tk_lot248 x (List.mem_of_getElem? h)
theorem tk_r249 [Sig] (k : Nat) (x : KV) (h : tk_l249[k]? = some x) : Ran Go.Proofs.Tryz.prog (gl3 1 2 3) 3 (tupL (kvK x)) (kvV x) := chain_ran stat tk_ok tk_lot249 x (List.mem_of_getElem? h)
theorem tk_r250 [Sig] (k : Nat) (x : KV) (h : tk_l250[k]? = some x) : Ran Go.Proofs.Tryz.prog (gl3 1 2 3) 3 (tupL (kvK x)) (kvV x) := chain_ran stat tk_ok tk_lot250 x (List.mem_of_getElem? h)
theorem tk_r251 [Sig] (k : Nat) (x : KV) (h : tk_l251[k]? = some x) : Ran Go.Proofs.Tryz.prog (gl3 1 2 3) 3 (tupL (kvK x)) (kvV x) := chain_ran stat tk_ok tk_lot251 x (List.mem_of_getElem? h)
theorem tk_r252 [Sig] (k : Nat) (x : KV) (h : tk_l252[k]? = some x) : Ran Go.Proofs.Tryz.prog (gl3 1 2 3) 3 (tupL (kvK x)) (kvV x) := chain_ran stat tk_ok tk_lot252 x (List.mem_of_getElem? h)
theorem tk_r253 [Sig] (k : Nat) (x : KV) (h : tk_l253[k]? = some x) : Ran Go.Proofs.Tryz.prog (gl3 1 2 3) 3 (tupL (kvK x)) (kvV x) := chain_ran stat tk_ok tk_lot253 x (List.mem_of_getElem? h)
theorem tk_r254 [Sig] (k : Nat) (x : KV) (h : tk_l254[k]? = some x) : Ran Go.Proofs.Tryz.prog (gl3 1 2 3) 3 (tupL (kvK x)) (kvV x) := chain_ran stat tk_ok tk_lot254 x (List.mem_of_getElem? h)
theorem tk_r255 [Sig] (k : Nat) (x : KV) (h : tk_l255[k]? = some x) : Ran Go.Proofs.Tryz.prog (gl3 1 2 3) 3 (tupL (kvK x)) (kvV x) := chain_ran stat tk_ok tk_lot255 x (List.mem_of_getElem? h)
theorem tk_all_0 [Sig] (r1 : Nat) (h1 : r1 < 16) : Ran Go.Proofs.Tryz.prog (gl3 1 2 3) 3 [.sym 0 .i64 (16) 0, .sym 1 .i64 (16) r1] (.bool true) := by
  have hh : r1 = 0 ∨ r1 = 1 ∨ r1 = 2 ∨ r1 = 3 ∨ r1 = 4 ∨ r1 = 5 ∨ r1 = 6 ∨ r1 = 7 ∨ r1 = 8 ∨ r1 = 9 ∨ r1 = 10 ∨ r1 = 11 ∨ r1 = 12 ∨ r1 = 13 ∨ r1 = 14 ∨ r1 = 15 := by omega
  clear h1
  rcases hh with rfl | rfl | rfl | rfl | rfl | rfl | rfl | rfl | rfl | rfl | rfl | rfl | rfl | rfl | rfl | rfl
  · exact tk_r0 0 _ rfl
  · exact tk_r1 0 _ rfl
  · exact tk_r2 0 _ rfl
  · exact tk_r3 0 _ rfl
  · exact tk_r4 0 _ rfl
  · exact tk_r5 0 _ rfl
  · exact tk_r6 0 _ rfl
  · exact tk_r7 0 _ rfl
  · exact tk_r8 0 _ rfl
  · exact tk_r9 0 _ rfl
  · exact tk_r10 0 _ rfl
  · exact tk_r11 0 _ rfl
  · exact tk_r12 0 _ rfl
  · exact tk_r13 0 _ rfl
  · exact tk_r14 0 _ rfl
  · exact tk_r15 0 _ rfl
theorem tk_all_1 [Sig] (r1 : Nat) (h1 : r1 < 16) : Ran Go.Proofs.Tryz.prog (gl3 1 2 3) 3 [.sym 0 .i64 (16) 1, .sym 1 .i64 (16) r1] (.bool true) := by
  have hh : r1 = 0 ∨ r1 = 1 ∨ r1 = 2 ∨ r1 = 3 ∨ r1 = 4 ∨ r1 = 5 ∨ r1 = 6 ∨ r1 = 7 ∨ r1 = 8 ∨ r1 = 9 ∨ r1 = 10 ∨ r1 = 11 ∨ r1 = 12 ∨ r1 = 13 ∨ r1 = 14 ∨ r1 = 15 := by omega
  clear h1
  rcases hh with rfl | rfl | rfl | rfl | rfl | rfl | rfl | rfl | rfl | rfl | rfl | rfl | rfl | rfl | rfl | rfl
  · exact tk_r16 0 _ rfl
  · exact tk_r17 0 _ rfl
  · exact tk_r18 0 _ rfl
  · exact tk_r19 0 _ rfl
  · exact tk_r20 0 _ rfl
  · exact tk_r21 0 _ rfl
  · exact tk_r22 0 _ rfl
  · exact tk_r23 0 _ rfl
  · exact tk_r24 0 _ rfl
  · exact tk_r25 0 _ rfl
  · exact tk_r26 0 _ rfl
  · exact tk_r27 0 _ rfl
  · exact tk_r28 0 _ rfl
  · exact tk_r29 0 _ rfl
  · exact tk_r30 0 _ rfl
  · exact tk_r31 0 _ rfl
theorem tk_all_2 [Sig] (r1 : Nat) (h1 : r1 < 16) : Ran Go.Proofs.Tryz.prog (gl3 1 2 3) 3 [.sym 0 .i64 (16) 2, .sym 1 .i64 (16) r1] (.bool true) := by
  have hh : r1 = 0 ∨ r1 = 1 ∨ r1 = 2 ∨ r1 = 3 ∨ r1 = 4 ∨ r1 = 5 ∨ r1 = 6 ∨ r1 = 7 ∨ r1 = 8 ∨ r1 = 9 ∨ r1 = 10 ∨ r1 = 11 ∨ r1 = 12 ∨ r1 = 13 ∨ r1 = 14 ∨ r1 = 15 := by omega
  clear h1
  rcases hh with rfl | rfl | rfl | rfl | rfl | rfl | rfl | rfl | rfl | rfl | rfl | rfl | rfl | rfl | rfl | rfl
  · exact tk_r32 0 _ rfl
  · exact tk_r33 0 _ rfl
  · exact tk_r34 0 _ rfl
  · exact tk_r35 0 _ rfl
  · exact tk_r36 0 _ rfl
  · exact tk_r37 0 _ rfl
  · exact tk_r38 0 _ rfl
  · exact tk_r39 0 _ rfl
  · exact tk_r40 0 _ rfl
  · exact tk_r41 0 _ rfl
  · exact tk_r42 0 _ rfl
  · exact tk_r43 0 _ rfl
  · exact tk_r44 0 _ rfl
  · exact tk_r45 0 _ rfl
  · exact tk_r46 0 _ rfl
  · exact tk_r47 0 _ rfl
theorem tk_all_3 [Sig] (r1 : Nat) (h1 : r1 < 16) : Ran Go.Proofs.Tryz.prog (gl3 1 2 3) 3 [.sym 0 .i64 (16) 3, .sym 1 .i64 (16) r1] (.bool true) := by
  have hh : r1 = 0 ∨ r1 = 1 ∨ r1 = 2 ∨ r1 = 3 ∨ r1 = 4 ∨ r1 = 5 ∨ r1 = 6 ∨ r1 = 7 ∨ r1 = 8 ∨ r1 = 9 ∨ r1 = 10 ∨ r1 = 11 ∨ r1 = 12 ∨ r1 = 13 ∨ r1 = 14 ∨ r1 = 15 := by omega
  clear h1
  rcases hh with rfl | rfl | rfl | rfl | rfl | rfl | rfl | rfl | rfl | rfl | rfl | rfl | rfl | rfl | rfl | rfl
  · exact tk_r48 0 _ rfl
  · exact tk_r49 0 _ rfl
  · exact tk_r50 0 _ rfl
  · exact tk_r51 0 _ rfl
  · exact tk_r52 0 _ rfl
  · exact tk_r53 0 _ rfl
  · exact tk_r54 0 _ rfl
  · exact tk_r55 0 _ rfl
  · exact tk_r56 0 _ rfl
  · exact tk_r57 0 _ rfl
  · exact tk_r58 0 _ rfl
  · exact tk_r59 0 _ rfl
  · exact tk_r60 0 _ rfl
  · exact tk_r61 0 _ rfl
  · exact tk_r62 0 _ rfl
  · exact tk_r63 0 _ rfl
theorem tk_all_4 [Sig] (r1 : Nat) (h1 : r1 < 16) : Ran Go.Proofs.Tryz.prog (gl3 1 2 3) 3 [.sym 0 .i64 (16) 4, .sym 1 .i64 (16) r1] (.bool true) := by
  have hh : r1 = 0 ∨ r1 = 1 ∨ r1 = 2 ∨ r1 = 3 ∨ r1 = 4 ∨ r1 = 5 ∨ r1 = 6 ∨ r1 = 7 ∨ r1 = 8 ∨ r1 = 9 ∨ r1 = 10 ∨ r1 = 11 ∨ r1 = 12 ∨ r1 = 13 ∨ r1 = 14 ∨ r1 = 15 := by omega
  clear h1
  rcases hh with rfl | rfl | rfl | rfl | rfl | rfl | rfl | rfl | rfl | rfl | rfl | rfl | rfl | rfl | rfl | rfl
  · exact tk_r64 0 _ rfl
  · exact tk_r65 0 _ rfl
  · exact tk_r66 0 _ rfl
  · exact tk_r67 0 _ rfl
  · exact tk_r68 0 _ rfl
  · exact tk_r69 0 _ rfl
  · exact tk_r70 0 _ rfl
  · exact tk_r71 0 _ rfl
  · exact tk_r72 0 _ rfl
  · exact tk_r73 0 _ rfl
  · exact tk_r74 0 _ rfl
  · exact tk_r75 0 _ rfl
  · exact tk_r76 0 _ rfl
  · exact tk_r77 0 _ rfl
  · exact tk_r78 0 _ rfl
  · exact tk_r79 0 _ rfl
theorem tk_all_5 [Sig] (r1 : Nat) (h1 : r1 < 16) : Ran Go.Proofs.Tryz.prog (gl3 1 2 3) 3 [.sym 0 .i64 (16) 5, .sym 1 .i64 (16) r1] (.bool true) := by
  have hh : r1 = 0 ∨ r1 = 1 ∨ r1 = 2 ∨ r1 = 3 ∨ r1 = 4 ∨ r1 = 5 ∨ r1 = 6 ∨ r1 = 7 ∨ r1 = 8 ∨ r1 = 9 ∨ r1 = 10 ∨ r1 = 11 ∨ r1 = 12 ∨ r1 = 13 ∨ r1 = 14 ∨ r1 = 15 := by omega
  clear h1
  rcases hh with rfl | rfl | rfl | rfl | rfl | rfl | rfl | rfl | rfl | rfl | rfl | rfl | rfl | rfl | rfl | rfl
  · exact tk_r80 0 _ rfl
  · exact tk_r81 0 _ rfl
  · exact tk_r82 0 _ rfl
  · exact tk_r83 0 _ rfl
  · exact tk_r84 0 _ rfl
  · exact tk_r85 0 _ rfl
  · exact tk_r86 0 _ rfl
  · exact tk_r87 0 _ rfl
  · exact tk_r88 0 _ rfl
  · exact tk_r89 0 _ rfl
  · exact tk_r90 0 _ rfl
  · exact tk_r91 0 _ rfl
  · exact tk_r92 0 _ rfl
  · exact tk_r93 0 _ rfl
  · exact tk_r94 0 _ rfl
  · exact tk_r95 0 _ rfl
theorem tk_all_6 [Sig] (r1 : Nat) (h1 : r1 < 16) : Ran Go.Proofs.Tryz.prog (gl3 1 2 3) 3 [.sym 0 .i64 (16) 6, .sym 1 .i64 (16) r1] (.bool true) := by
  have hh : r1 = 0 ∨ r1 = 1 ∨ r1 = 2 ∨ r1 = 3 ∨ r1 = 4 ∨ r1 = 5 ∨ r1 = 6 ∨ r1 = 7 ∨ r1 = 8 ∨ r1 = 9 ∨ r1 = 10 ∨ r1 = 11 ∨ r1 = 12 ∨ r1 = 13 ∨ r1 = 14 ∨ r1 = 15 := by omega
  clear h1
  rcases hh with rfl | rfl | rfl | rfl | rfl | rfl | rfl | rfl | rfl | rfl | rfl | rfl | rfl | rfl | rfl | rfl
  · exact tk_r96 0 _ rfl
  · exact tk_r97 0 _ rfl
  · exact tk_r98 0 _ rfl
  · exact tk_r99 0 _ rfl
  · exact tk_r100 0 _ rfl
  · exact tk_r101 0 _ rfl
  · exact tk_r102 0 _ rfl
  · exact tk_r103 0 _ rfl
  · exact tk_r104 0 _ rfl
  · exact tk_r105 0 _ rfl
  · exact tk_r106 0 _ rfl
  · exact tk_r107 0 _ rfl
  · exact tk_r108 0 _ rfl
  · exact tk_r109 0 _ rfl
  · exact tk_r110 0 _ rfl
  · exact tk_r111 0 _ rfl
theorem tk_all_7 [Sig] (r1 : Nat) (h1 : r1 < 16) : Ran Go.Proofs.Tryz.prog (gl3 1 2 3) 3 [.sym 0 .i64 (16) 7, .sym 1 .i64 (16) r1] (.bool true) := by
  have hh : r1 = 0 ∨ r1 = 1 ∨ r1 = 2 ∨ r1 = 3 ∨ r1 = 4 ∨ r1 = 5 ∨ r1 = 6 ∨ r1 = 7 ∨ r1 = 8 ∨ r1 = 9 ∨ r1 = 10 ∨ r1 = 11 ∨ r1 = 12 ∨ r1 = 13 ∨ r1 = 14 ∨ r1 = 15 := by omega
  clear h1
  rcases hh with rfl | rfl | rfl | rfl | rfl | rfl | rfl | rfl | rfl | rfl | rfl | rfl | rfl | rfl | rfl | rfl
  · exact tk_r112 0 _ rfl
  · exact tk_r113 0 _ rfl
  · exact tk_r114 0 _ rfl
  · exact tk_r115 0 _ rfl
  · exact tk_r116 0 _ rfl
  · exact tk_r117 0 _ rfl
  · exact tk_r118 0 _ rfl
  · exact tk_r119 0 _ rfl
  · exact tk_r120 0 _ rfl
  · exact tk_r121 0 _ rfl
  · exact tk_r122 0 _ rfl
  · exact tk_r123 0 _ rfl
  · exact tk_r124 0 _ rfl
  · exact tk_r125 0 _ rfl
  · exact tk_r126 0 _ rfl
  · exact tk_r127 0 _ rfl
theorem tk_all_8 [Sig] (r1 : Nat) (h1 : r1 < 16) : Ran Go.Proofs.Tryz.prog (gl3 1 2 3) 3 [.sym 0 .i64 (16) 8, .sym 1 .i64 (16) r1] (.bool true) := by
  have hh : r1 = 0 ∨ r1 = 1 ∨ r1 = 2 ∨ r1 = 3 ∨ r1 = 4 ∨ r1 = 5 ∨ r1 = 6 ∨ r1 = 7 ∨ r1 = 8 ∨ r1 = 9 ∨ r1 = 10 ∨ r1 = 11 ∨ r1 = 12 ∨ r1 = 13 ∨ r1 = 14 ∨ r1 = 15 := by omega
  clear h1
  rcases hh with rfl | rfl | rfl | rfl | rfl | rfl | rfl | rfl | rfl | rfl | rfl | rfl | rfl | rfl | rfl | rfl
  · exact tk_r128 0 _ rfl
  · exact tk_r129 0 _ rfl
  · exact tk_r130 0 _ rfl
  · exact tk_r131 0 _ rfl
  · exact tk_r132 0 _ rfl
  · exact tk_r133 0 _ rfl
  · exact tk_r134 0 _ rfl
  · exact tk_r135 0 _ rfl
  · exact tk_r136 0 _ rfl
  · exact tk_r137 0 _ rfl
  · exact tk_r138 0 _ rfl
  · exact tk_r139 0 _ rfl
  · exact tk_r140 0 _ rfl
  · exact tk_r141 0 _ rfl
  · exact tk_r142 0 _ rfl
  · exact tk_r143 0 _ rfl
theorem tk_all_9 [Sig] (r1 : Nat) (h1 : r1 < 16) : Ran Go.Proofs.Tryz.prog (gl3 1 2 3) 3 [.sym 0 .i64 (16) 9, .sym 1 .i64 (16) r1] (.bool true) := by
  have hh : r1 = 0 ∨ r1 = 1 ∨ r1 = 2 ∨ r1 = 3 ∨ r1 = 4 ∨ r1 = 5 ∨ r1 = 6 ∨ r1 = 7 ∨ r1 = 8 ∨ r1 = 9 ∨ r1 = 10 ∨ r1 = 11 ∨ r1 = 12 ∨ r1 = 13 ∨ r1 = 14 ∨ r1 = 15 := by omega
  clear h1
  rcases hh with rfl | rfl | rfl | rfl | rfl | rfl | rfl | rfl | rfl | rfl | rfl | rfl | rfl | rfl | rfl | rfl
  · exact tk_r144 0 _ rfl
  · exact tk_r145 0 _ rfl
  · exact tk_r146 0 _ rfl
  · exact tk_r147 0 _ rfl
  · exact tk_r148 0 _ rfl
  · exact tk_r149 0 _ rfl
  · exact tk_r150 0 _ rfl
  · exact tk_r151 0 _ rfl
  · exact tk_r152 0 _ rfl
  · exact tk_r153 0 _ rfl
  · exact tk_r154 0 _ rfl
  · exact tk_r155 0 _ rfl
  · exact tk_r156 0 _ rfl
  · exact tk_r157 0 _ rfl
  · exact tk_r158 0 _ rfl
  · exact tk_r159 0 _ rfl
theorem tk_all_10 [Sig] (r1 : Nat) (h1 : r1 < 16) : Ran Go.Proofs.Tryz.prog (gl3 1 2 3) 3 [.sym 0 .i64 (16) 10, .sym 1 .i64 (16) r1] (.bool true) := by
  have hh : r1 = 0 ∨ r1 = 1 ∨ r1 = 2 ∨ r1 = 3 ∨ r1 = 4 ∨ r1 = 5 ∨ r1 = 6 ∨ r1 = 7 ∨ r1 = 8 ∨ r1 = 9 ∨ r1 = 10 ∨ r1 = 11 ∨ r1 = 12 ∨ r1 = 13 ∨ r1 = 14 ∨ r1 = 15 := by omega
  clear h1
  rcases hh with rfl | rfl | rfl | rfl | rfl | rfl | rfl | rfl | rfl | rfl | rfl | rfl | rfl | rfl | rfl | rfl
  · exact tk_r160 0 _ rfl
  · exact tk_r161 0 _ rfl
  · exact tk_r162 0 _ rfl
  · exact tk_r163 0 _ rfl
  · exact tk_r164 0 _ rfl
  · exact tk_r165 0 _ rfl
  · exact tk_r166 0 _ rfl
  · exact tk_r167 0 _ rfl
  · exact tk_r168 0 _ rfl
  · exact tk_r169 0 _ rfl
  · exact tk_r170 0 _ rfl
  · exact tk_r171 0 _ rfl
  · exact tk_r172 0 _ rfl
  · exact tk_r173 0 _ rfl
  · exact tk_r174 0 _ rfl
  · exact tk_r175 0 _ rfl
theorem tk_all_11 [Sig] (r1 : Nat) (h1 : r1 < 16) : Ran Go.Proofs.Tryz.prog (gl3 1 2 3) 3 [.sym 0 .i64 (16) 11, .sym 1 .i64 (16) r1] (.bool true) := by
  have hh : r1 = 0 ∨ r1 = 1 ∨ r1 = 2 ∨ r1 = 3 ∨ r1 = 4 ∨ r1 = 5 ∨ r1 = 6 ∨ r1 = 7 ∨ r1 = 8 ∨ r1 = 9 ∨ r1 = 10 ∨ r1 = 11 ∨ r1 = 12 ∨ r1 = 13 ∨ r1 = 14 ∨ r1 = 15 := by omega
  clear h1
  rcases hh with rfl | rfl | rfl | rfl | rfl | rfl | rfl | rfl | rfl | rfl | rfl | rfl | rfl | rfl | rfl | rfl
  · exact tk_r176 0 _ rfl
  · exact tk_r177 0 _ rfl
  · exact tk_r178 0 _ rfl
  · exact tk_r179 0 _ rfl
  · exact tk_r180 0 _ rfl
  · exact tk_r181 0 _ rfl
  · exact tk_r182 0 _ rfl
  · exact tk_r183 0 _ rfl
  · exact tk_r184 0 _ rfl
  · exact tk_r185 0 _ rfl
  · exact tk_r186 0 _ rfl
  · exact tk_r187 0 _ rfl
  · exact tk_r188 0 _ rfl
  · exact tk_r189 0 _ rfl
  · exact tk_r190 0 _ rfl
  · exact tk_r191 0 _ rfl
theorem tk_all_12 [Sig] (r1 : Nat) (h1 : r1 < 16) : Ran Go.Proofs.Tryz.prog (gl3 1 2 3) 3 [.sym 0 .i64 (16) 12, .sym 1 .i64 (16) r1] (.bool true) := by
  have hh : r1 = 0 ∨ r1 = 1 ∨ r1 = 2 ∨ r1 = 3 ∨ r1 = 4 ∨ r1 = 5 ∨ r1 = 6 ∨ r1 = 7 ∨ r1 = 8 ∨ r1 = 9 ∨ r1 = 10 ∨ r1 = 11 ∨ r1 = 12 ∨ r1 = 13 ∨ r1 = 14 ∨ r1 = 15 := by omega
  clear h1
  rcases hh with rfl | rfl | rfl | rfl | rfl | rfl | rfl | rfl | rfl | rfl | rfl | rfl | rfl | rfl | rfl | rfl
  · exact tk_r192 0 _ rfl
  · exact tk_r193 0 _ rfl
  · exact tk_r194 0 _ rfl
  · exact tk_r195 0 _ rfl
  · exact tk_r196 0 _ rfl
  · exact tk_r197 0 _ rfl
  · exact tk_r198 0 _ rfl
  · exact tk_r199 0 _ rfl
  · exact tk_r200 0 _ rfl
  · exact tk_r201 0 _ rfl
  · exact tk_r202 0 _ rfl
  · exact tk_r203 0 _ rfl
  · exact tk_r204 0 _ rfl
  · exact tk_r205 0 _ rfl
  · exact tk_r206 0 _ rfl
  · exact tk_r207 0 _ rfl
theorem tk_all_13 [Sig] (r1 : Nat) (h1 : r1 < 16) : Ran Go.Proofs.Tryz.prog (gl3 1 2 3) 3 [.sym 0 .i64 (16) 13, .sym 1 .i64 (16) r1] (.bool true) := by
  have hh : r1 = 0 ∨ r1 = 1 ∨ r1 = 2 ∨ r1 = 3 ∨ r1 = 4 ∨ r1 = 5 ∨ r1 = 6 ∨ r1 = 7 ∨ r1 = 8 ∨ r1 = 9 ∨ r1 = 10 ∨ r1 = 11 ∨ r1 = 12 ∨ r1 = 13 ∨ r1 = 14 ∨ r1 = 15 := by omega
  clear h1
  rcases hh with rfl | rfl | rfl | rfl | rfl | rfl | rfl | rfl | rfl | rfl | rfl | rfl | rfl | rfl | rfl | rfl
  · exact tk_r208 0 _ rfl
  · exact tk_r209 0 _ rfl
  · exact tk_r210 0 _ rfl
  · exact tk_r211 0 _ rfl
  · exact tk_r212 0 _ rfl
  · exact tk_r213 0 _ rfl
  · exact tk_r214 0 _ rfl
  · exact tk_r215 0 _ rfl
  · exact tk_r216 0 _ rfl
  · exact tk_r217 0 _ rfl
  · exact tk_r218 0 _ rfl
  · exact tk_r219 0 _ rfl
  · exact tk_r220 0 _ rfl
  · exact tk_r221 0 _ rfl
  · exact tk_r222 0 _ rfl
  · exact tk_r223 0 _ rfl
theorem tk_all_14 [Sig] (r1 : Nat) (h1 : r1 < 16) : Ran Go.Proofs.Tryz.prog (gl3 1 2 3) 3 [.sym 0 .i64 (16) 14, .sym 1 .i64 (16) r1] (.bool true) := by
  have hh : r1 = 0 ∨ r1 = 1 ∨ r1 = 2 ∨ r1 = 3 ∨ r1 = 4 ∨ r1 = 5 ∨ r1 = 6 ∨ r1 = 7 ∨ r1 = 8 ∨ r1 = 9 ∨ r1 = 10 ∨ r1 = 11 ∨ r1 = 12 ∨ r1 = 13 ∨ r1 = 14 ∨ r1 = 15 := by omega
  clear h1
  rcases hh with rfl | rfl | rfl | rfl | rfl | rfl | rfl | rfl | rfl | rfl | rfl | rfl | rfl | rfl | rfl | rfl
  · exact tk_r224 0 _ rfl
  · exact tk_r225 0 _ rfl
  · exact tk_r226 0 _ rfl
  · exact tk_r227 0 _ rfl
  · exact tk_r228 0 _ rfl
  · exact tk_r229 0 _ rfl
  · exact tk_r230 0 _ rfl
  · exact tk_r231 0 _ rfl
  · exact tk_r232 0 _ rfl
  · exact tk_r233 0 _ rfl
  · exact tk_r234 0 _ rfl
  · exact tk_r235 0 _ rfl
  · exact tk_r236 0 _ rfl
  · exact tk_r237 0 _ rfl
  · exact tk_r238 0 _ rfl
  · exact tk_r239 0 _ rfl
theorem tk_all_15 [Sig] (r1 : Nat) (h1 : r1 < 16) : Ran Go.Proofs.Tryz.prog (gl3 1 2 3) 3 [.sym 0 .i64 (16) 15, .sym 1 .i64 (16) r1] (.bool true) := by
  have hh : r1 = 0 ∨ r1 = 1 ∨ r1 = 2 ∨ r1 = 3 ∨ r1 = 4 ∨ r1 = 5 ∨ r1 = 6 ∨ r1 = 7 ∨ r1 = 8 ∨ r1 = 9 ∨ r1 = 10 ∨ r1 = 11 ∨ r1 = 12 ∨ r1 = 13 ∨ r1 = 14 ∨ r1 = 15 := by omega
  clear h1
  rcases hh with rfl | rfl | rfl | rfl | rfl | rfl | rfl | rfl | rfl | rfl | rfl | rfl | rfl | rfl | rfl | rfl
  · exact tk_r240 0 _ rfl
  · exact tk_r241 0 _ rfl
  · exact tk_r242 0 _ rfl
  · exact tk_r243 0 _ rfl
  · exact tk_r244 0 _ rfl
  · exact tk_r245 0 _ rfl
  · exact tk_r246 0 _ rfl
  · exact tk_r247 0 _ rfl
  · exact tk_r248 0 _ rfl
  · exact tk_r249 0 _ rfl
  · exact tk_r250 0 _ rfl
  · exact tk_r251 0 _ rfl
  · exact tk_r252 0 _ rfl
  · exact tk_r253 0 _ rfl
  · exact tk_r254 0 _ rfl
  · exact tk_r255 0 _ rfl
theorem tk_all [Sig] (r0 : Nat) (r1 : Nat) (h0 : r0 < 16) (h1 : r1 < 16) : Ran Go.Proofs.Tryz.prog (gl3 1 2 3) 3 [.sym 0 .i64 (16) r0, .sym 1 .i64 (16) r1] (.bool true) := by
  have hh : r0 = 0 ∨ r0 = 1 ∨ r0 = 2 ∨ r0 = 3 ∨ r0 = 4 ∨ r0 = 5 ∨ r0 = 6 ∨ r0 = 7 ∨ r0 = 8 ∨ r0 = 9 ∨ r0 = 10 ∨ r0 = 11 ∨ r0 = 12 ∨ r0 = 13 ∨ r0 = 14 ∨ r0 = 15 := by omega
  clear h0
  rcases hh with rfl | rfl | rfl | rfl | rfl | rfl | rfl | rfl | rfl | rfl | rfl | rfl | rfl | rfl | rfl | rfl
  · exact tk_all_0 r1 h1
  · exact tk_all_1 r1 h1
  · exact tk_all_2 r1 h1
  · exact tk_all_3 r1 h1
  · exact tk_all_4 r1 h1
  · exact tk_all_5 r1 h1
  · exact tk_all_6 r1 h1
  · exact tk_all_7 r1 h1
  · exact tk_all_8 r1 h1
  · exact tk_all_9 r1 h1
  · exact tk_all_10 r1 h1
  · exact tk_all_11 r1 h1
  · exact tk_all_12 r1 h1
  · exact tk_all_13 r1 h1
  · exact tk_all_14 r1 h1
  · exact tk_all_15 r1 h1
end Go.Exe.Tryz
