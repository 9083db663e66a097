/- BindRounds: all runs together. -/
import Derived.Test.YtbgehcnapokbmaaGreatDoorExeStat
import Derived.Test.YtbgehcnapokbmaaGreatDoorBrRunA
import Derived.Test.YtbgehcnapokbmaaGreatDoorBrRunB
import Derived.Test.YtbgehcnapokbmaaGreatDoorBrRunC
import Derived.Test.YtbgehcnapokbmaaGreatDoorBrRunD
import Derived.Test.YtbgehcnapokbmaaGreatDoorBrRunE
import Derived.Test.YtbgehcnapokbmaaGreatDoorBrRunF
import Derived.Test.YtbgehcnapokbmaaGreatDoorBrRunG
import Derived.Test.YtbgehcnapokbmaaGreatDoorBrRunH
import Derived.Test.YtbgehcnapokbmaaGreatDoorBrRunI
import Derived.Test.YtbgehcnapokbmaaGreatDoorBrRunJ
import Derived.Test.YtbgehcnapokbmaaGreatDoorBrRunK
import Derived.Test.YtbgehcnapokbmaaGreatDoorBrRunL
import Derived.Test.YtbgehcnapokbmaaGreatDoorBrRunM
import Derived.Test.YtbgehcnapokbmaaGreatDoorBrRunN
import Derived.Test.YtbgehcnapokbmaaGreatDoorBrRunO
import Derived.Test.YtbgehcnapokbmaaGreatDoorBrRunP
set_option maxRecDepth 100000
set_option maxHeartbeats 4000000
namespace Go.Exe.Tryz
open Go Go.Exe
theorem br_ok [Sig] : FtOK Go.Proofs.Tryz.prog (gl3 0 2 3) br_ft := ftK_ok ftOK (known_of stat ftOK br_awake)
theorem br_r0 [Sig] (k : Nat) (x : KV) (h : br_l0[k]? = some x) : Ran Go.Proofs.Tryz.prog (gl3 0 2 3) 3 (tupL (kvK x)) (kvV x) := chain_ran stat br_ok br_lot0 x (List.mem_of_getElem? h)
theorem br_r1 [Sig] (k : Nat) (x : KV) (h : br_l1[k]? = some x) : Ran Go.Proofs.Tryz.prog (gl3 0 2 3) 3 (tupL (kvK x)) (kvV x) := chain_ran stat br_ok br_lot1 x (List.mem_of_getElem? h)
theorem br_r2 [Sig] (k : Nat) (x : KV) (h : br_l2[k]? = some x) : Ran Go.Proofs.Tryz.prog (gl3 0 2 3) 3 (tupL (kvK x)) (kvV x) := chain_ran stat br_ok br_lot2 x (List.mem_of_getElem? h)
theorem br_r3 [Sig] (k : Nat) (x : KV) (h : br_l3[k]? = some x) : Ran Go.Proofs.Tryz.prog (gl3 0 2 3) 3 (tupL (kvK x)) (kvV x) := chain_ran stat br_ok br_lot3 x (List.mem_of_getElem? h)
theorem br_r4 [Sig] (k : Nat) (x : KV) (h : br_l4[k]? = some x) : Ran Go.Proofs.Tryz.prog (gl3 0 2 3) 3 (tupL (kvK x)) (kvV x) := chain_ran stat br_ok br_lot4 x (List.mem_of_getElem? h)
theorem br_r5 [Sig] (k : Nat) (x : KV) (h : br_l5[k]? = some x) : Ran Go.Proofs.Tryz.prog (gl3 0 2 3) 3 (tupL (kvK x)) (kvV x) := chain_ran stat br_ok br_lot5 x (List.mem_of_getElem? h)
theorem br_r6 [Sig] (k : Nat) (x : KV) (h : br_l6[k]? = some x) : Ran Go.Proofs.Tryz.prog (gl3 0 2 3) 3 (tupL (kvK x)) (kvV x) := chain_ran stat br_ok br_lot6 x (List.mem_of_getElem? h)
theorem br_r7 [Sig] (k : Nat) (x : KV) (h : br_l7[k]? = some x) : Ran Go.Proofs.Tryz.prog (gl3 0 2 3) 3 (tupL (kvK x)) (kvV x) := chain_ran stat br_ok br_lot7 x (List.mem_of_getElem? h)
theorem br_r8 [Sig] (k : Nat) (x : KV) (h : br_l8[k]? = some x) : Ran Go.Proofs.Tryz.prog (gl3 0 2 3) 3 (tupL (kvK x)) (kvV x) := chain_ran stat br_ok br_lot8 x (List.mem_of_getElem? h)
theorem br_r9 [Sig] (k : Nat) (x : KV) (h : br_l9[k]? = some x) : Ran Go.Proofs.Tryz.prog (gl3 0 2 3) 3 (tupL (kvK x)) (kvV x) := chain_ran stat br_ok br_lot9 x (List.mem_of_getElem? h)
theorem br_r10 [Sig] (k : Nat) (x : KV) (h : br_l10[k]? = some x) : Ran Go.Proofs.Tryz.prog (gl3 0 2 3) 3 (tupL (kvK x)) (kvV x) := chain_ran stat br_ok br_lot10 x (List.mem_of_getElem? h)
theorem br_r11 [Sig] (k : Nat) (x : KV) (h : br_l11[k]? = some x) : Ran Go.Proofs.Tryz.prog (gl3 0 2 3) 3 (tupL (kvK x)) (kvV x) := chain_ran stat br_ok br_lot11 x (List.mem_of_getElem? h)
theorem br_r12 [Sig] (k : Nat) (x : KV) (h : br_l12[k]? = some x) : Ran Go.Proofs.Tryz.prog (gl3 0 2 3) 3 (tupL (kvK x)) (kvV x) := chain_ran stat br_ok br_lot12 x (List.mem_of_getElem? h)
theorem br_r13 [Sig] (k : Nat) (x : KV) (h : br_l13[k]? = some x) : Ran Go.Proofs.Tryz.prog (gl3 0 2 3) 3 (tupL (kvK x)) (kvV x) := chain_ran stat br_ok br_lot13 x (List.mem_of_getElem? h)
theorem br_r14 [Sig] (k : Nat) (x : KV) (h : br_l14[k]? = some x) : Ran Go.Proofs.Tryz.prog (gl3 0 2 3) 3 (tupL (kvK x)) (kvV x) := chain_ran stat br_ok br_lot14 x (List.mem_of_getElem? h)
theorem br_r15 [Sig] (k : Nat) (x : KV) (h : br_l15[k]? = some x) : Ran Go.Proofs.Tryz.prog (gl3 0 2 3) 3 (tupL (kvK x)) (kvV x) := chain_ran stat br_ok br_lot15 x (List.mem_of_getElem? h)
theorem br_r16 [Sig] (k : Nat) (x : KV) (h : br_l16[k]? = some x) : Ran Go.Proofs.Tryz.prog (gl3 0 2 3) 3 (tupL (kvK x)) (kvV x) := chain_ran stat br_ok br_lot16 x (List.mem_of_getElem? h)
theorem br_r17 [Sig] (k : Nat) (x : KV) (h : br_l17[k]? = some x) : Ran Go.Proofs.Tryz.prog (gl3 0 2 3) 3 (tupL (kvK x)) (kvV x) := chain_ran stat br_ok br_lot17 x (List.mem_of_getElem? h)
theorem br_r18 [Sig] (k : Nat) (x : KV) (h : br_l18[k]? = some x) : Ran Go.Proofs.Tryz.prog (gl3 0 2 3) 3 (tupL (kvK x)) (kvV x) := chain_ran stat br_ok br_lot18 x (List.mem_of_getElem? h)
theorem br_r19 [Sig] (k : Nat) (x : KV) (h : br_l19[k]? = some x) : Ran Go.Proofs.Tryz.prog (gl3 0 2 3) 3 (tupL (kvK x)) (kvV x) := chain_ran stat br_ok br_lot19 x (List.mem_of_getElem? h)
theorem br_r20 [Sig] (k : Nat) (x : KV) (h : br_l20[k]? = some x) : Ran Go.Proofs.Tryz.prog (gl3 0 2 3) 3 (tupL (kvK x)) (kvV x) := chain_ran stat br_ok br_lot20 x (List.mem_of_getElem? h)
theorem br_r21 [Sig] (k : Nat) (x : KV) (h : br_l21[k]? = some x) : Ran Go.Proofs.Tryz.prog (gl3 0 2 3) 3 (tupL (kvK x)) (kvV x) := chain_ran stat br_ok br_lot21 x (List.mem_of_getElem? h)
theorem br_r22 [Sig] (k : Nat) (x : KV) (h : br_l22[k]? = some x) : Ran Go.Proofs.Tryz.prog (gl3 0 2 3) 3 (tupL (kvK x)) (kvV x) := chain_ran stat br_ok br_lot22 x (List.mem_of_getElem? h)
theorem br_r23 [Sig] (k : Nat) (x : KV) (h : br_l23[k]? = some x) : Ran Go.Proofs.Tryz.prog (gl3 0 2 3) 3 (tupL (kvK x)) (kvV x) := chain_ran stat br_ok br_lot23 x (List.mem_of_getElem? h)
theorem br_r24 [Sig] (k : Nat) (x : KV) (h : br_l24[k]? = some x) : Ran Go.Proofs.Tryz.prog (gl3 0 2 3) 3 (tupL (kvK x)) (kvV x) := chain_ran stat br_ok br_lot24 x (List.mem_of_getElem? h)
theorem br_r25 [Sig] (k : Nat) (x : KV) (h : br_l25[k]? = some x) : Ran Go.Proofs.Tryz.prog (gl3 0 2 3) 3 (tupL (kvK x)) (kvV x) := chain_ran stat br_ok br_lot25 x (List.mem_of_getElem? h)
theorem br_r26 [Sig] (k : Nat) (x : KV) (h : br_l26[k]? = some x) : Ran Go.Proofs.Tryz.prog (gl3 0 2 3) 3 (tupL (kvK x)) (kvV x) := chain_ran stat br_ok br_lot26 x (List.mem_of_getElem? h)
theorem br_r27 [Sig] (k : Nat) (x : KV) (h : br_l27[k]? = some x) : Ran Go.Proofs.Tryz.prog (gl3 0 2 3) 3 (tupL (kvK x)) (kvV x) := chain_ran stat br_ok br_lot27 x (List.mem_of_getElem? h)
theorem br_r28 [Sig] (k : Nat) (x : KV) (h : br_l28[k]? = some x) : Ran Go.Proofs.Tryz.prog (gl3 0 2 3) 3 (tupL (kvK x)) (kvV x) := chain_ran stat br_ok br_lot28 x (List.mem_of_getElem? h)
theorem br_r29 [Sig] (k : Nat) (x : KV) (h : br_l29[k]? = some x) : Ran Go.Proofs.Tryz.prog (gl3 0 2 3) 3 (tupL (kvK x)) (kvV x) := chain_ran stat br_ok br_lot29 x (List.mem_of_getElem? h)
theorem br_r30 [Sig] (k : Nat) (x : KV) (h : br_l30[k]? = some x) : Ran Go.Proofs.Tryz.prog (gl3 0 2 3) 3 (tupL (kvK x)) (kvV x) := chain_ran stat br_ok br_lot30 x (List.mem_of_getElem? h)
theorem br_r31 [Sig] (k : Nat) (x : KV) (h : br_l31[k]? = some x) : Ran Go.Proofs.Tryz.prog (gl3 0 2 3) 3 (tupL (kvK x)) (kvV x) := chain_ran stat br_ok br_lot31 x (List.mem_of_getElem? h)
theorem br_r32 [Sig] (k : Nat) (x : KV) (h : br_l32[k]? = some x) : Ran Go.Proofs.Tryz.prog (gl3 0 2 3) 3 (tupL (kvK x)) (kvV x) := chain_ran stat br_ok br_lot32 x (List.mem_of_getElem? h)
theorem br_r33 [Sig] (k : Nat) (x : KV) (h : br_l33[k]? = some x) : Ran Go.Proofs.Tryz.prog (gl3 0 2 3) 3 (tupL (kvK x)) (kvV x) := chain_ran stat br_ok br_lot33 x (List.mem_of_getElem? h)
theorem br_r34 [Sig] (k : Nat) (x : KV) (h : br_l34[k]? = some x) : Ran Go.Proofs.Tryz.prog (gl3 0 2 3) 3 (tupL (kvK x)) (kvV x) := chain_ran stat br_ok br_lot34 x (List.mem_of_getElem? h)
theorem br_r35 [Sig] (k : Nat) (x : KV) (h : br_l35[k]? = some x) : Ran Go.Proofs.Tryz.prog (gl3 0 2 3) 3 (tupL (kvK x)) (kvV x) := chain_ran stat br_ok br_lot35 x (List.mem_of_getElem? h)
theorem br_r36 [Sig] (k : Nat) (x : KV) (h : br_l36[k]? = some x) : Ran Go.Proofs.Tryz.prog (gl3 0 2 3) 3 (tupL (kvK x)) (kvV x) := chain_ran stat br_ok br_lot36 x (List.mem_of_getElem? h)
theorem br_r37 [Sig] (k : Nat) (x : KV) (h : br_l37[k]? = some x) : Ran Go.Proofs.Tryz.prog (gl3 0 2 3) 3 (tupL (kvK x)) (kvV x) := chain_ran stat br_ok br_lot37 x (List.mem_of_getElem? h)
theorem br_r38 [Sig] (k : Nat) (x : KV) (h : br_l38[k]? = some x) : Ran Go.Proofs.Tryz.prog (gl3 0 2 3) 3 (tupL (kvK x)) (kvV x) := chain_ran stat br_ok br_lot38 x (List.mem_of_getElem? h)
theorem br_r39 [Sig] (k : Nat) (x : KV) (h : br_l39[k]? = some x) : Ran Go.Proofs.Tryz.prog (gl3 0 2 3) 3 (tupL (kvK x)) (kvV x) := chain_ran stat br_ok br_lot39 x (List.mem_of_getElem? h)
theorem br_r40 [Sig] (k : Nat) (x : KV) (h : br_l40[k]? = some x) : Ran Go.Proofs.Tryz.prog (gl3 0 2 3) 3 (tupL (kvK x)) (kvV x) := chain_ran stat br_ok br_lot40 x (List.mem_of_getElem? h)
theorem br_r41 [Sig] (k : Nat) (x : KV) (h : br_l41[k]? = some x) : Ran Go.Proofs.Tryz.prog (gl3 0 2 3) 3 (tupL (kvK x)) (kvV x) := chain_ran stat br_ok br_lot41 x (List.mem_of_getElem? h)
theorem br_r42 [Sig] (k : Nat) (x : KV) (h : br_l42[k]? = some x) : Ran Go.Proofs.Tryz.prog (gl3 0 2 3) 3 (tupL (kvK x)) (kvV x) := chain_ran stat br_ok br_lot42 x (List.mem_of_getElem? h)
theorem br_r43 [Sig] (k : Nat) (x : KV) (h : br_l43[k]? = some x) : Ran Go.Proofs.Tryz.prog (gl3 0 2 3) 3 (tupL (kvK x)) (kvV x) := chain_ran stat br_ok br_lot43 x (List.mem_of_getElem? h)
theorem br_r44 [Sig] (k : Nat) (x : KV) (h : br_l44[k]? = some x) : Ran Go.Proofs.Tryz.prog (gl3 0 2 3) 3 (tupL (kvK x)) (kvV x) := chain_ran stat br_ok br_lot44 x (List.mem_of_getElem? h)
theorem br_r45 [Sig] (k : Nat) (x : KV) (h : br_l45[k]? = some x) : Ran Go.Proofs.Tryz.prog (gl3 0 2 3) 3 (tupL (kvK x)) (kvV x) := chain_ran stat br_ok br_lot45 x (List.mem_of_getElem? h)
theorem br_r46 [Sig] (k : Nat) (x : KV) (h : br_l46[k]? = some x) : Ran Go.Proofs.Tryz.prog (gl3 0 2 3) 3 (tupL (kvK x)) (kvV x) := chain_ran stat br_ok br_lot46 x (List.mem_of_getElem? h)
theorem br_r47 [Sig] (k : Nat) (x : KV) (h : br_l47[k]? = some x) : Ran Go.Proofs.Tryz.prog (gl3 0 2 3) 3 (tupL (kvK x)) (kvV x) := chain_ran stat br_ok br_lot47 x (List.mem_of_getElem? h)
theorem br_r48 [Sig] (k : Nat) (x : KV) (h : br_l48[k]? = some x) : Ran Go.Proofs.Tryz.prog (gl3 0 2 3) 3 (tupL (kvK x)) (kvV x) := chain_ran stat br_ok br_lot48 x (List.mem_of_getElem? h)
theorem br_r49 [Sig] (k : Nat) (x : KV) (h : br_l49[k]? = some x) : Ran Go.Proofs.Tryz.prog (gl3 0 2 3) 3 (tupL (kvK x)) (kvV x) := chain_ran stat br_ok br_lot49 x (List.mem_of_getElem? h)
theorem br_r50 [Sig] (k : Nat) (x : KV) (h : br_l50[k]? = some x) : Ran Go.Proofs.Tryz.prog (gl3 0 2 3) 3 (tupL (kvK x)) (kvV x) := chain_ran stat br_ok br_lot50 x (List.mem_of_getElem? h)
theorem br_r51 [Sig] (k : Nat) (x : KV) (h : br_l51[k]? = some x) : Ran Go.Proofs.Tryz.prog (gl3 0 2 3) 3 (tupL (kvK x)) (kvV x) := chain_ran stat br_ok br_lot51 x (List.mem_of_getElem? h)
theorem br_r52 [Sig] (k : Nat) (x : KV) (h : br_l52[k]? = some x) : Ran Go.Proofs.Tryz.prog (gl3 0 2 3) 3 (tupL (kvK x)) (kvV x) := chain_ran stat br_ok br_lot52 x (List.mem_of_getElem? h)
theorem br_r53 [Sig] (k : Nat) (x : KV) (h : br_l53[k]? = some x) : Ran Go.Proofs.Tryz.prog (gl3 0 2 3) 3 (tupL (kvK x)) (kvV x) := chain_ran stat br_ok br_lot53 x (List.mem_of_getElem? h)
theorem br_r54 [Sig] (k : Nat) (x : KV) (h : br_l54[k]? = some x) : Ran Go.Proofs.Tryz.prog (gl3 0 2 3) 3 (tupL (kvK x)) (kvV x) := chain_ran stat br_ok br_lot54 x (List.mem_of_getElem? h)
theorem br_r55 [Sig] (k : Nat) (x : KV) (h : br_l55[k]? = some x) : Ran Go.Proofs.Tryz.prog (gl3 0 2 3) 3 (tupL (kvK x)) (kvV x) := chain_ran stat br_ok br_lot55 x (List.mem_of_getElem? h)
theorem br_r56 [Sig] (k : Nat) (x : KV) (h : br_l56[k]? = some x) : Ran Go.Proofs.Tryz.prog (gl3 0 2 3) 3 (tupL (kvK x)) (kvV x) := chain_ran stat br_ok br_lot56 x (List.mem_of_getElem? h)
theorem br_r57 [Sig] (k : Nat) (x : KV) (h : br_l57[k]? = some x) : Ran Go.Proofs.Tryz.prog (gl3 0 2 3) 3 (tupL (kvK x)) (kvV x) := chain_ran stat br_ok br_lot57 x (List.mem_of_getElem? h)
theorem br_r58 [Sig] (k : Nat) (x : KV) (h : br_l58[k]? = some x) : Ran Go.Proofs.Tryz.prog (gl3 0 2 3) 3 (tupL (kvK x)) (kvV x) := chain_ran stat br_ok br_lot58 x (List.mem_of_getElem? h)
theorem br_r59 [Sig] (k : Nat) (x : KV) (h : br_l59[k]? = some x) : Ran Go.Proofs.Tryz.prog (gl3 0 2 3) 3 (tupL (kvK x)) (kvV x) := chain_ran stat br_ok br_lot59 x (List.mem_of_getElem? h)
theorem br_r60 [Sig] (k : Nat) (x : KV) (h : br_l60[k]? = some x) : Ran Go.Proofs.Tryz.prog (gl3 0 2 3) 3 (tupL (kvK x)) (kvV x) := chain_ran stat br_ok br_lot60 x (List.mem_of_getElem? h)
theorem br_r61 [Sig] (k : Nat) (x : KV) (h : br_l61[k]? = some x) : Ran Go.Proofs.Tryz.prog (gl3 0 2 3) 3 (tupL (kvK x)) (kvV x) := chain_ran stat br_ok br_lot61 x (List.mem_of_getElem? h)
theorem br_r62 [Sig] (k : Nat) (x : KV) (h : br_l62[k]? = some x) : Ran Go.Proofs.Tryz.prog (gl3 0 2 3) 3 (tupL (kvK x)) (kvV x) := chain_ran stat br_ok br_lot62 x (List.mem_of_getElem? h)
theorem br_r63 [Sig] (k : Nat) (x : KV) (h : br_l63[k]? = some x) : Ran Go.Proofs.Tryz.prog (gl3 0 2 3) 3 (tupL (kvK x)) (kvV x) := chain_ran stat br_ok br_lot63 x (List.mem_of_getElem? h)
theorem br_r64 [Sig] (k : Nat) (x : KV) (h : br_l64[k]? = some x) : Ran Go.Proofs.Tryz.prog (gl3 0 2 3) 3 (tupL (kvK x)) (kvV x) := chain_ran stat br_ok br_lot64 x (List.mem_of_getElem? h)
theorem br_r65 [Sig] (k : Nat) (x : KV) (h : br_l65[k]? = some x) : Ran Go.Proofs.Tryz.prog (gl3 0 2 3) 3 (tupL (kvK x)) (kvV x) := chain_ran stat br_ok br_lot65 x (List.mem_of_getElem? h)
theorem br_all_0_0 [Sig] (z2 : Bool) : Ran Go.Proofs.Tryz.prog (gl3 0 2 3) 3 [.sym 0 .i64 (20) 0, .sym 1 .i64 (0 + 2) 0, .bool z2] (.bool true) := by
  cases z2
  · exact br_r0 0 _ rfl
  · exact br_r0 1 _ rfl
theorem br_all_0_1 [Sig] (z2 : Bool) : Ran Go.Proofs.Tryz.prog (gl3 0 2 3) 3 [.sym 0 .i64 (20) 0, .sym 1 .i64 (0 + 2) 1, .bool z2] (.bool true) := by
  cases z2
  · exact br_r0 2 _ rfl
  · exact br_r0 3 _ rfl
theorem br_all_0 [Sig] (r1 : Nat) (z2 : Bool) (h1 : r1 < 0 + 2) : Ran Go.Proofs.Tryz.prog (gl3 0 2 3) 3 [.sym 0 .i64 (20) 0, .sym 1 .i64 (0 + 2) r1, .bool z2] (.bool true) := by
  have hh : r1 = 0 ∨ r1 = 1 := by omega
  clear h1
  rcases hh with rfl | rfl
  · exact br_all_0_0 z2
  · exact br_all_0_1 z2
theorem br_all_1_0 [Sig] (z2 : Bool) : Ran Go.Proofs.Tryz.prog (gl3 0 2 3) 3 [.sym 0 .i64 (20) 1, .sym 1 .i64 (1 + 2) 0, .bool z2] (.bool true) := by
  cases z2
  · exact br_r0 4 _ rfl
  · exact br_r0 5 _ rfl
theorem br_all_1_1 [Sig] (z2 : Bool) : Ran Go.Proofs.Tryz.prog (gl3 0 2 3) 3 [.sym 0 .i64 (20) 1, .sym 1 .i64 (1 + 2) 1, .bool z2] (.bool true) := by
  cases z2
  · exact br_r0 6 _ rfl
  · exact br_r1 0 _ rfl
theorem br_all_1_2 [Sig] (z2 : Bool) : Ran Go.Proofs.Tryz.prog (gl3 0 2 3) 3 [.sym 0 .i64 (20) 1, .sym 1 .i64 (1 + 2) 2, .bool z2] (.bool true) := by
  cases z2
  · exact br_r1 1 _ rfl
  · exact br_r1 2 _ rfl
theorem br_all_1 [Sig] (r1 : Nat) (z2 : Bool) (h1 : r1 < 1 + 2) : Ran Go.Proofs.Tryz.prog (gl3 0 2 3) 3 [.sym 0 .i64 (20) 1, .sym 1 .i64 (1 + 2) r1, .bool z2] (.bool true) := by
  have hh : r1 = 0 ∨ r1 = 1 ∨ r1 = 2 := by omega
  clear h1
  rcases hh with rfl | rfl | rfl
  · exact br_all_1_0 z2
  · exact br_all_1_1 z2
  · exact br_all_1_2 z2
theorem br_all_2_0 [Sig] (z2 : Bool) : Ran Go.Proofs.Tryz.prog (gl3 0 2 3) 3 [.sym 0 .i64 (20) 2, .sym 1 .i64 (2 + 2) 0, .bool z2] (.bool true) := by
  cases z2
  · exact br_r1 3 _ rfl
  · exact br_r1 4 _ rfl
theorem br_all_2_1 [Sig] (z2 : Bool) : Ran Go.Proofs.Tryz.prog (gl3 0 2 3) 3 [.sym 0 .i64 (20) 2, .sym 1 .i64 (2 + 2) 1, .bool z2] (.bool true) := by
  cases z2
  · exact br_r1 5 _ rfl
  · exact br_r1 6 _ rfl
theorem br_all_2_2 [Sig] (z2 : Bool) : Ran Go.Proofs.Tryz.prog (gl3 0 2 3) 3 [.sym 0 .i64 (20) 2, .sym 1 .i64 (2 + 2) 2, .bool z2] (.bool true) := by
  cases z2
  · exact br_r2 0 _ rfl
  · exact br_r2 1 _ rfl
theorem br_all_2_3 [Sig] (z2 : Bool) : Ran Go.Proofs.Tryz.prog (gl3 0 2 3) 3 [.sym 0 .i64 (20) 2, .sym 1 .i64 (2 + 2) 3, .bool z2] (.bool true) := by
  cases z2
  · exact br_r2 2 _ rfl
  · exact br_r2 3 _ rfl
theorem br_all_2 [Sig] (r1 : Nat) (z2 : Bool) (h1 : r1 < 2 + 2) : Ran Go.Proofs.Tryz.prog (gl3 0 2 3) 3 [.sym 0 .i64 (20) 2, .sym 1 .i64 (2 + 2) r1, .bool z2] (.bool true) := by
  have hh : r1 = 0 ∨ r1 = 1 ∨ r1 = 2 ∨ r1 = 3 := by omega
  clear h1
  rcases hh with rfl | rfl | rfl | rfl
  · exact br_all_2_0 z2
  · exact br_all_2_1 z2
  · exact br_all_2_2 z2
  · exact br_all_2_3 z2
theorem br_all_3_0 [Sig] (z2 : Bool) : Ran Go.Proofs.Tryz.prog (gl3 0 2 3) 3 [.sym 0 .i64 (20) 3, .sym 1 .i64 (3 + 2) 0, .bool z2] (.bool true) := by
  cases z2
  · exact br_r2 4 _ rfl
  · exact br_r2 5 _ rfl
theorem br_all_3_1 [Sig] (z2 : Bool) : Ran Go.Proofs.Tryz.prog (gl3 0 2 3) 3 [.sym 0 .i64 (20) 3, .sym 1 .i64 (3 + 2) 1, .bool z2] (.bool true) := by
  cases z2
  · exact br_r2 6 _ rfl
  · exact br_r3 0 _ rfl
theorem br_all_3_2 [Sig] (z2 : Bool) : Ran Go.Proofs.Tryz.prog (gl3 0 2 3) 3 [.sym 0 .i64 (20) 3, .sym 1 .i64 (3 + 2) 2, .bool z2] (.bool true) := by
  cases z2
  · exact br_r3 1 _ rfl
  · exact br_r3 2 _ rfl
theorem br_all_3_3 [Sig] (z2 : Bool) : Ran Go.Proofs.Tryz.prog (gl3 0 2 3) 3 [.sym 0 .i64 (20) 3, .sym 1 .i64 (3 + 2) 3, .bool z2] (.bool true) := by
  cases z2
  · exact br_r3 3 _ rfl
  · exact br_r3 4 _ rfl
theorem br_all_3_4 [Sig] (z2 : Bool) : Ran Go.Proofs.Tryz.prog (gl3 0 2 3) 3 [.sym 0 .i64 (20) 3, .sym 1 .i64 (3 + 2) 4, .bool z2] (.bool true) := by
  cases z2
  · exact br_r3 5 _ rfl
  · exact br_r3 6 _ rfl
theorem br_all_3 [Sig] (r1 : Nat) (z2 : Bool) (h1 : r1 < 3 + 2) : Ran Go.Proofs.Tryz.prog (gl3 0 2 3) 3 [.sym 0 .i64 (20) 3, .sym 1 .i64 (3 + 2) r1, .bool z2] (.bool true) := by
  have hh : r1 = 0 ∨ r1 = 1 ∨ r1 = 2 ∨ r1 = 3 ∨ r1 = 4 := by omega
  clear h1
  rcases hh with rfl | rfl | rfl | rfl | rfl
  · exact br_all_3_0 z2
  · exact br_all_3_1 z2
  · exact br_all_3_2 z2
  · exact br_all_3_3 z2
  · exact br_all_3_4 z2
theorem br_all_4_0 [Sig] (z2 : Bool) : Ran Go.Proofs.Tryz.prog (gl3 0 2 3) 3 [.sym 0 .i64 (20) 4, .sym 1 .i64 (4 + 2) 0, .bool z2] (.bool true) := by
  cases z2
  · exact br_r4 0 _ rfl
  · exact br_r4 1 _ rfl
theorem br_all_4_1 [Sig] (z2 : Bool) : Ran Go.Proofs.Tryz.prog (gl3 0 2 3) 3 [.sym 0 .i64 (20) 4, .sym 1 .i64 (4 + 2) 1, .bool z2] (.bool true) := by
  cases z2
  · exact br_r4 2 _ rfl
  · exact br_r4 3 _ rfl
theorem br_all_4_2 [Sig] (z2 : Bool) : Ran Go.Proofs.Tryz.prog (gl3 0 2 3) 3 [.sym 0 .i64 (20) 4, .sym 1 .i64 (4 + 2) 2, .bool z2] (.bool true) := by
  cases z2
  · exact br_r4 4 _ rfl
  · exact br_r4 5 _ rfl
theorem br_all_4_3 [Sig] (z2 : Bool) : Ran Go.Proofs.Tryz.prog (gl3 0 2 3) 3 [.sym 0 .i64 (20) 4, .sym 1 .i64 (4 + 2) 3, .bool z2] (.bool true) := by
  cases z2
  · exact br_r4 6 _ rfl
  · exact br_r5 0 _ rfl
theorem br_all_4_4 [Sig] (z2 : Bool) : Ran Go.Proofs.Tryz.prog (gl3 0 2 3) 3 [.sym 0 .i64 (20) 4, .sym 1 .i64 (4 + 2) 4, .bool z2] (.bool true) := by
  cases z2
  · exact br_r5 1 _ rfl
  · exact br_r5 2 _ rfl
theorem br_all_4_5 [Sig] (z2 : Bool) : Ran Go.Proofs.Tryz.prog (gl3 0 2 3) 3 [.sym 0 .i64 (20) 4, .sym 1 .i64 (4 + 2) 5, .bool z2] (.bool true) := by
  cases z2
  · exact br_r5 3 _ rfl
  · exact br_r5 4 _ rfl
theorem br_all_4 [Sig] (r1 : Nat) (z2 : Bool) (h1 : r1 < 4 + 2) : Ran Go.Proofs.Tryz.prog (gl3 0 2 3) 3 [.sym 0 .i64 (20) 4, .sym 1 .i64 (4 + 2) r1, .bool z2] (.bool true) := by
  have hh : r1 = 0 ∨ r1 = 1 ∨ r1 = 2 ∨ r1 = 3 ∨ r1 = 4 ∨ r1 = 5 := by omega
  clear h1
  rcases hh with rfl | rfl | rfl | rfl | rfl | rfl
  · exact br_all_4_0 z2
  · exact br_all_4_1 z2
  · exact br_all_4_2 z2
  · exact br_all_4_3 z2
  · exact br_all_4_4 z2
  · exact br_all_4_5 z2
theorem br_all_5_0 [Sig] (z2 : Bool) : Ran Go.Proofs.Tryz.prog (gl3 0 2 3) 3 [.sym 0 .i64 (20) 5, .sym 1 .i64 (5 + 2) 0, .bool z2] (.bool true) := by
  cases z2
  · exact br_r5 5 _ rfl
  · exact br_r5 6 _ rfl
theorem br_all_5_1 [Sig] (z2 : Bool) : Ran Go.Proofs.Tryz.prog (gl3 0 2 3) 3 [.sym 0 .i64 (20) 5, .sym 1 .i64 (5 + 2) 1, .bool z2] (.bool true) := by
  cases z2
  · exact br_r6 0 _ rfl
  · exact br_r6 1 _ rfl
theorem br_all_5_2 [Sig] (z2 : Bool) : Ran Go.Proofs.Tryz.prog (gl3 0 2 3) 3 [.sym 0 .i64 (20) 5, .sym 1 .i64 (5 + 2) 2, .bool z2] (.bool true) := by
  cases z2
  · exact br_r6 2 _ rfl
  · exact br_r6 3 _ rfl
theorem br_all_5_3 [Sig] (z2 : Bool) : Ran Go.Proofs.Tryz.prog (gl3 0 2 3) 3 [.sym 0 .i64 (20) 5, .sym 1 .i64 (5 + 2) 3, .bool z2] (.bool true) := by
  cases z2
  · exact br_r6 4 _ rfl
  · exact br_r6 5 _ rfl
theorem br_all_5_4 [Sig] (z2 : Bool) : Ran Go.Proofs.Tryz.prog (gl3 0 2 3) 3 [.sym 0 .i64 (20) 5, .sym 1 .i64 (5 + 2) 4, .bool z2] (.bool true) := by
  cases z2
  · exact br_r6 6 _ rfl
  · exact br_r7 0 _ rfl
theorem br_all_5_5 [Sig] (z2 : Bool) : Ran Go.Proofs.Tryz.prog (gl3 0 2 3) 3 [.sym 0 .i64 (20) 5, .sym 1 .i64 (5 + 2) 5, .bool z2] (.bool true) := by
  cases z2
  · exact br_r7 1 _ rfl
  · exact br_r7 2 _ rfl
theorem br_all_5_6 [Sig] (z2 : Bool) : Ran Go.Proofs.Tryz.prog (gl3 0 2 3) 3 [.sym 0 .i64 (20) 5, .sym 1 .i64 (5 + 2) 6, .bool z2] (.bool true) := by
  cases z2
  · exact br_r7 3 _ rfl
  · exact br_r7 4 _ rfl
theorem br_all_5 [Sig] (r1 : Nat) (z2 : Bool) (h1 : r1 < 5 + 2) : Ran Go.Proofs.Tryz.prog (gl3 0 2 3) 3 [.sym 0 .i64 (20) 5, .sym 1 .i64 (5 + 2) r1, .bool z2] (.bool true) := by
  have hh : r1 = 0 ∨ r1 = 1 ∨ r1 = 2 ∨ r1 = 3 ∨ r1 = 4 ∨ r1 = 5 ∨ r1 = 6 := by omega
  clear h1
  rcases hh with rfl | rfl | rfl | rfl | rfl | rfl | rfl
  · exact br_all_5_0 z2
  · exact br_all_5_1 z2
  · exact br_all_5_2 z2
  · exact br_all_5_3 z2
  · exact br_all_5_4 z2
  · exact br_all_5_5 z2
  · exact br_all_5_6 z2
theorem br_all_6_0 [Sig] (z2 : Bool) : Ran Go.Proofs.Tryz.prog (gl3 0 2 3) 3 [.sym 0 .i64 (20) 6, .sym 1 .i64 (6 + 2) 0, .bool z2] (.bool true) := by
  cases z2
  · exact br_r7 5 _ rfl
  · exact br_r7 6 _ rfl
theorem br_all_6_1 [Sig] (z2 : Bool) : Ran Go.Proofs.Tryz.prog (gl3 0 2 3) 3 [.sym 0 .i64 (20) 6, .sym 1 .i64 (6 + 2) 1, .bool z2] (.bool true) := by
  cases z2
  · exact br_r8 0 _ rfl
  · exact br_r8 1 _ rfl
theorem br_all_6_2 [Sig] (z2 : Bool) : Ran Go.Proofs.Tryz.prog (gl3 0 2 3) 3 [.sym 0 .i64 (20) 6, .sym 1 .i64 (6 + 2) 2, .bool z2] (.bool true) := by
  cases z2
  · exact br_r8 2 _ rfl
  · exact br_r8 3 _ rfl
theorem br_all_6_3 [Sig] (z2 : Bool) : Ran Go.Proofs.Tryz.prog (gl3 0 2 3) 3 [.sym 0 .i64 (20) 6, .sym 1 .i64 (6 + 2) 3, .bool z2] (.bool true) := by
  cases z2
  · exact br_r8 4 _ rfl
  · exact br_r8 5 _ rfl
theorem br_all_6_4 [Sig] (z2 : Bool) : Ran Go.Proofs.Tryz.prog (gl3 0 2 3) 3 [.sym 0 .i64 (20) 6, .sym 1 .i64 (6 + 2) 4, .bool z2] (.bool true) := by
  cases z2
  · exact br_r8 6 _ rfl
  · exact br_r9 0 _ rfl
theorem br_all_6_5 [Sig] (z2 : Bool) : Ran Go.Proofs.Tryz.prog (gl3 0 2 3) 3 [.sym 0 .i64 (20) 6, .sym 1 .i64 (6 + 2) 5, .bool z2] (.bool true) := by
  cases z2
  · exact br_r9 1 _ rfl
  · exact br_r9 2 _ rfl
theorem br_all_6_6 [Sig] (z2 : Bool) : Ran Go.Proofs.Tryz.prog (gl3 0 2 3) 3 [.sym 0 .i64 (20) 6, .sym 1 .i64 (6 + 2) 6, .bool z2] (.bool true) := by
  cases z2
  · exact br_r9 3 _ rfl
  · exact br_r9 4 _ rfl
theorem br_all_6_7 [Sig] (z2 : Bool) : Ran Go.Proofs.Tryz.prog (gl3 0 2 3) 3 [.sym 0 .i64 (20) 6, .sym 1 .i64 (6 + 2) 7, .bool z2] (.bool true) := by
  cases z2
  · exact br_r9 5 _ rfl
  · exact br_r9 6 _ rfl
theorem br_all_6 [Sig] (r1 : Nat) (z2 : Bool) (h1 : r1 < 6 + 2) : Ran Go.Proofs.Tryz.prog (gl3 0 2 3) 3 [.sym 0 .i64 (20) 6, .sym 1 .i64 (6 + 2) r1, .bool z2] (.bool true) := by
  have hh : r1 = 0 ∨ r1 = 1 ∨ r1 = 2 ∨ r1 = 3 ∨ r1 = 4 ∨ r1 = 5 ∨ r1 = 6 ∨ r1 = 7 := by omega
  clear h1
  rcases hh with rfl | rfl | rfl | rfl | rfl | rfl | rfl | rfl
  · exact br_all_6_0 z2
  · exact br_all_6_1 z2
  · exact br_all_6_2 z2
  · exact br_all_6_3 z2
  · exact br_all_6_4 z2
  · exact br_all_6_5 z2
  · exact br_all_6_6 z2
  · exact br_all_6_7 z2
theorem br_all_7_0 [Sig] (z2 : Bool) : Ran Go.Proofs.Tryz.prog (gl3 0 2 3) 3 [.sym 0 .i64 (20) 7, .sym 1 .i64 (7 + 2) 0, .bool z2] (.bool true) := by
  cases z2
  · exact br_r10 0 _ rfl
  · exact br_r10 1 _ rfl
theorem br_all_7_1 [Sig] (z2 : Bool) : Ran Go.Proofs.Tryz.prog (gl3 0 2 3) 3 [.sym 0 .i64 (20) 7, .sym 1 .i64 (7 + 2) 1, .bool z2] (.bool true) := by
  cases z2
  · exact br_r10 2 _ rfl
  · exact br_r10 3 _ rfl
theorem br_all_7_2 [Sig] (z2 : Bool) : Ran Go.Proofs.Tryz.prog (gl3 0 2 3) 3 [.sym 0 .i64 (20) 7, .sym 1 .i64 (7 + 2) 2, .bool z2] (.bool true) := by
  cases z2
  · exact br_r10 4 _ rfl
  · exact br_r10 5 _ rfl
theorem br_all_7_3 [Sig] (z2 : Bool) : Ran Go.Proofs.Tryz.prog (gl3 0 2 3) 3 [.sym 0 .i64 (20) 7, .sym 1 .i64 (7 + 2) 3, .bool z2] (.bool true) := by
  cases z2
  · exact br_r10 6 _ rfl
  · exact br_r11 0 _ rfl
theorem br_all_7_4 [Sig] (z2 : Bool) : Ran Go.Proofs.Tryz.prog (gl3 0 2 3) 3 [.sym 0 .i64 (20) 7, .sym 1 .i64 (7 + 2) 4, .bool z2] (.bool true) := by
  cases z2
  · exact br_r11 1 _ rfl
  · exact br_r11 2 _ rfl
theorem br_all_7_5 [Sig] (z2 : Bool) : Ran Go.Proofs.Tryz.prog (gl3 0 2 3) 3 [.sym 0 .i64 (20) 7, .sym 1 .i64 (7 + 2) 5, .bool z2] (.bool true) := by
  cases z2
  · exact br_r11 3 _ rfl
  · exact br_r11 4 _ rfl
theorem br_all_7_6 [Sig] (z2 : Bool) : Ran Go.Proofs.Tryz.prog (gl3 0 2 3) 3 [.sym 0 .i64 (20) 7, .sym 1 .i64 (7 + 2) 6, .bool z2] (.bool true) := by
  cases z2
  · exact br_r11 5 _ rfl
  · exact br_r11 6 _ rfl
theorem br_all_7_7 [Sig] (z2 : Bool) : Ran Go.Proofs.Tryz.prog (gl3 0 2 3) 3 [.sym 0 .i64 (20) 7, .sym 1 .i64 (7 + 2) 7, .bool z2] (.bool true) := by
  cases z2
  · exact br_r12 0 _ rfl
  · exact br_r12 1 _ rfl
theorem br_all_7_8 [Sig] (z2 : Bool) : Ran Go.Proofs.Tryz.prog (gl3 0 2 3) 3 [.sym 0 .i64 (20) 7, .sym 1 .i64 (7 + 2) 8, .bool z2] (.bool true) := by
  cases z2
  · exact br_r12 2 _ rfl
  · exact br_r12 3 _ rfl
theorem br_all_7 [Sig] (r1 : Nat) (z2 : Bool) (h1 : r1 < 7 + 2) : Ran Go.Proofs.Tryz.prog (gl3 0 2 3) 3 [.sym 0 .i64 (20) 7, .sym 1 .i64 (7 + 2) r1, .bool z2] (.bool true) := by
  have hh : r1 = 0 ∨ r1 = 1 ∨ r1 = 2 ∨ r1 = 3 ∨ r1 = 4 ∨ r1 = 5 ∨ r1 = 6 ∨ r1 = 7 ∨ r1 = 8 := by omega
  clear h1
  rcases hh with rfl | rfl | rfl | rfl | rfl | rfl | rfl | rfl | rfl
  · exact br_all_7_0 z2
  · exact br_all_7_1 z2
  · exact br_all_7_2 z2
  · exact br_all_7_3 z2
  · exact br_all_7_4 z2
  · exact br_all_7_5 z2
  · exact br_all_7_6 z2
  · exact br_all_7_7 z2
  · exact br_all_7_8 z2
theorem br_all_8_0 [Sig] (z2 : Bool) : Ran Go.Proofs.Tryz.prog (gl3 0 2 3) 3 [.sym 0 .i64 (20) 8, .sym 1 .i64 (8 + 2) 0, .bool z2] (.bool true) := by
  cases z2
  · exact br_r12 4 _ rfl
  · exact br_r12 5 _ rfl
theorem br_all_8_1 [Sig] (z2 : Bool) : Ran Go.Proofs.Tryz.prog (gl3 0 2 3) 3 [.sym 0 .i64 (20) 8, .sym 1 .i64 (8 + 2) 1, .bool z2] (.bool true) := by
  cases z2
  · exact br_r12 6 _ rfl
  · exact br_r13 0 _ rfl
theorem br_all_8_2 [Sig] (z2 : Bool) : Ran Go.Proofs.Tryz.prog (gl3 0 2 3) 3 [.sym 0 .i64 (20) 8, .sym 1 .i64 (8 + 2) 2, .bool z2] (.bool true) := by
  cases z2
  · exact br_r13 1 _ rfl
  · exact br_r13 2 _ rfl
theorem br_all_8_3 [Sig] (z2 : Bool) : Ran Go.Proofs.Tryz.prog (gl3 0 2 3) 3 [.sym 0 .i64 (20) 8, .sym 1 .i64 (8 + 2) 3, .bool z2] (.bool true) := by
  cases z2
  · exact br_r13 3 _ rfl
  · exact br_r13 4 _ rfl
theorem br_all_8_4 [Sig] (z2 : Bool) : Ran Go.Proofs.Tryz.prog (gl3 0 2 3) 3 [.sym 0 .i64 (20) 8, .sym 1 .i64 (8 + 2) 4, .bool z2] (.bool true) := by
  cases z2
  · exact br_r13 5 _ rfl
  · exact br_r13 6 _ rfl
theorem br_all_8_5 [Sig] (z2 : Bool) : Ran Go.Proofs.Tryz.prog (gl3 0 2 3) 3 [.sym 0 .i64 (20) 8, .sym 1 .i64 (8 + 2) 5, .bool z2] (.bool true) := by
  cases z2
  · exact br_r14 0 _ rfl
  · exact br_r14 1 _ rfl
theorem br_all_8_6 [Sig] (z2 : Bool) : Ran Go.Proofs.Tryz.prog (gl3 0 2 3) 3 [.sym 0 .i64 (20) 8, .sym 1 .i64 (8 + 2) 6, .bool z2] (.bool true) := by
  cases z2
  · exact br_r14 2 _ rfl
  · exact br_r14 3 _ rfl
theorem br_all_8_7 [Sig] (z2 : Bool) : Ran Go.Proofs.Tryz.prog (gl3 0 2 3) 3 [.sym 0 .i64 (20) 8, .sym 1 .i64 (8 + 2) 7, .bool z2] (.bool true) := by
  cases z2
  · exact br_r14 4 _ rfl
  · exact br_r14 5 _ rfl
theorem br_all_8_8 [Sig] (z2 : Bool) : Ran Go.Proofs.Tryz.prog (gl3 0 2 3) 3 [.sym 0 .i64 (20) 8, .sym 1 .i64 (8 + 2) 8, .bool z2] (.bool true) := by
  cases z2
  · exact br_r14 6 _ rfl
  · exact br_r15 0 _ rfl
theorem br_all_8_9 [Sig] (z2 : Bool) : Ran Go.Proofs.Tryz.prog (gl3 0 2 3) 3 [.sym 0 .i64 (20) 8, .sym 1 .i64 (8 + 2) 9, .bool z2] (.bool true) := by
  cases z2
  · exact br_r15 1 _ rfl
  · exact br_r15 2 _ rfl
theorem br_all_8 [Sig] (r1 : Nat) (z2 : Bool) (h1 : r1 < 8 + 2) : Ran Go.Proofs.Tryz.prog (gl3 0 2 3) 3 [.sym 0 .i64 (20) 8, .sym 1 .i64 (8 + 2) r1, .bool z2] (.bool true) := by
  have hh : r1 = 0 ∨ r1 = 1 ∨ r1 = 2 ∨ r1 = 3 ∨ r1 = 4 ∨ r1 = 5 ∨ r1 = 6 ∨ r1 = 7 ∨ r1 = 8 ∨ r1 = 9 := by omega
  clear h1
  rcases hh with rfl | rfl | rfl | rfl | rfl | rfl | rfl | rfl | rfl | rfl
  · exact br_all_8_0 z2
  · exact br_all_8_1 z2
  · exact br_all_8_2 z2
  · exact br_all_8_3 z2
  · exact br_all_8_4 z2
  · exact br_all_8_5 z2
  · exact br_all_8_6 z2
  · exact br_all_8_7 z2
  · exact br_all_8_8 z2
  · exact br_all_8_9 z2
theorem br_all_9_0 [Sig] (z2 : Bool) : Ran Go.Proofs.Tryz.prog (gl3 0 2 3) 3 [.sym 0 .i64 (20) 9, .sym 1 .i64 (9 + 2) 0, .bool z2] (.bool true) := by
  cases z2
  · exact br_r15 3 _ rfl
  · exact br_r15 4 _ rfl
theorem br_all_9_1 [Sig] (z2 : Bool) : Ran Go.Proofs.Tryz.prog (gl3 0 2 3) 3 [.sym 0 .i64 (20) 9, .sym 1 .i64 (9 + 2) 1, .bool z2] (.bool true) := by
  cases z2
  · exact br_r15 5 _ rfl
  · exact br_r15 6 _ rfl
theorem br_all_9_2 [Sig] (z2 : Bool) : Ran Go.Proofs.Tryz.prog (gl3 0 2 3) 3 [.sym 0 .i64 (20) 9, .sym 1 .i64 (9 + 2) 2, .bool z2] (.bool true) := by
  cases z2
  · exact br_r16 0 _ rfl
  · exact br_r16 1 _ rfl
theorem br_all_9_3 [Sig] (z2 : Bool) : Ran Go.Proofs.Tryz.prog (gl3 0 2 3) 3 [.sym 0 .i64 (20) 9, .sym 1 .i64 (9 + 2) 3, .bool z2] (.bool true) := by
  cases z2
  · exact br_r16 2 _ rfl
  · exact br_r16 3 _ rfl
theorem br_all_9_4 [Sig] (z2 : Bool) : Ran Go.Proofs.Tryz.prog (gl3 0 2 3) 3 [.sym 0 .i64 (20) 9, .sym 1 .i64 (9 + 2) 4, .bool z2] (.bool true) := by
  cases z2
  · exact br_r16 4 _ rfl
  · exact br_r16 5 _ rfl
theorem br_all_9_5 [Sig] (z2 : Bool) : Ran Go.Proofs.Tryz.prog (gl3 0 2 3) 3 [.sym 0 .i64 (20) 9, .sym 1 .i64 (9 + 2) 5, .bool z2] (.bool true) := by
  cases z2
  · exact br_r16 6 _ rfl
  · exact br_r17 0 _ rfl
theorem br_all_9_6 [Sig] (z2 : Bool) : Ran Go.Proofs.Tryz.prog (gl3 0 2 3) 3 [.sym 0 .i64 (20) 9, .sym 1 .i64 (9 + 2) 6, .bool z2] (.bool true) := by
  cases z2
  · exact br_r17 1 _ rfl
  · exact br_r17 2 _ rfl
theorem br_all_9_7 [Sig] (z2 : Bool) : Ran Go.Proofs.Tryz.prog (gl3 0 2 3) 3 [.sym 0 .i64 (20) 9, .sym 1 .i64 (9 + 2) 7, .bool z2] (.bool true) := by
  cases z2
  · exact br_r17 3 _ rfl
  · exact br_r17 4 _ rfl
theorem br_all_9_8 [Sig] (z2 : Bool) : Ran Go.Proofs.Tryz.prog (gl3 0 2 3) 3 [.sym 0 .i64 (20) 9, .sym 1 .i64 (9 + 2) 8, .bool z2] (.bool true) := by
  cases z2
  · exact br_r17 5 _ rfl
  · exact br_r17 6 _ rfl
theorem br_all_9_9 [Sig] (z2 : Bool) : Ran Go.Proofs.Tryz.prog (gl3 0 2 3) 3 [.sym 0 .i64 (20) 9, .sym 1 .i64 (9 + 2) 9, .bool z2] (.bool true) := by
  cases z2
  · exact br_r18 0 _ rfl
  · exact br_r18 1 _ rfl
theorem br_all_9_10 [Sig] (z2 : Bool) : Ran Go.Proofs.Tryz.prog (gl3 0 2 3) 3 [.sym 0 .i64 (20) 9, .sym 1 .i64 (9 + 2) 10, .bool z2] (.bool true) := by
  cases z2
  · exact br_r18 2 _ rfl
  · exact br_r18 3 _ rfl
theorem br_all_9 [Sig] (r1 : Nat) (z2 : Bool) (h1 : r1 < 9 + 2) : Ran Go.Proofs.Tryz.prog (gl3 0 2 3) 3 [.sym 0 .i64 (20) 9, .sym 1 .i64 (9 + 2) r1, .bool z2] (.bool true) := by
  have hh : r1 = 0 ∨ r1 = 1 ∨ r1 = 2 ∨ r1 = 3 ∨ r1 = 4 ∨ r1 = 5 ∨ r1 = 6 ∨ r1 = 7 ∨ r1 = 8 ∨ r1 = 9 ∨ r1 = 10 := by omega
  clear h1
  rcases hh with rfl | rfl | rfl | rfl | rfl | rfl | rfl | rfl | rfl | rfl | rfl
  · exact br_all_9_0 z2
  · exact br_all_9_1 z2
  · exact br_all_9_2 z2
  · exact br_all_9_3 z2
  · exact br_all_9_4 z2
  · exact br_all_9_5 z2
  · exact br_all_9_6 z2
  · exact br_all_9_7 z2
  · exact br_all_9_8 z2
  · exact br_all_9_9 z2
  · exact br_all_9_10 z2
theorem br_all_10_0 [Sig] (z2 : Bool) : Ran Go.Proofs.Tryz.prog (gl3 0 2 3) 3 [.sym 0 .i64 (20) 10, .sym 1 .i64 (10 + 2) 0, .bool z2] (.bool true) := by
  cases z2
  · exact br_r18 4 _ rfl
  · exact br_r18 5 _ rfl
theorem br_all_10_1 [Sig] (z2 : Bool) : Ran Go.Proofs.Tryz.prog (gl3 0 2 3) 3 [.sym 0 .i64 (20) 10, .sym 1 .i64 (10 + 2) 1, .bool z2] (.bool true) := by
  cases z2
  · exact br_r18 6 _ rfl
  · exact br_r19 0 _ rfl
theorem br_all_10_2 [Sig] (z2 : Bool) : Ran Go.Proofs.Tryz.prog (gl3 0 2 3) 3 [.sym 0 .i64 (20) 10, .sym 1 .i64 (10 + 2) 2, .bool z2] (.bool true) := by
  cases z2
  · exact br_r19 1 _ rfl
  · exact br_r19 2 _ rfl
theorem br_all_10_3 [Sig] (z2 : Bool) : Ran Go.Proofs.Tryz.prog (gl3 0 2 3) 3 [.sym 0 .i64 (20) 10, .sym 1 .i64 (10 + 2) 3, .bool z2] (.bool true) := by
  cases z2
  · exact br_r19 3 _ rfl
  · exact br_r19 4 _ rfl
theorem br_all_10_4 [Sig] (z2 : Bool) : Ran Go.Proofs.Tryz.prog (gl3 0 2 3) 3 [.sym 0 .i64 (20) 10, .sym 1 .i64 (10 + 2) 4, .bool z2] (.bool true) := by
  cases z2
  · exact br_r19 5 _ rfl
  · exact br_r19 6 _ rfl
theorem br_all_10_5 [Sig] (z2 : Bool) : Ran Go.Proofs.Tryz.prog (gl3 0 2 3) 3 [.sym 0 .i64 (20) 10, .sym 1 .i64 (10 + 2) 5, .bool z2] (.bool true) := by
  cases z2
  · exact br_r20 0 _ rfl
  · exact br_r20 1 _ rfl
theorem br_all_10_6 [Sig] (z2 : Bool) : Ran Go.Proofs.Tryz.prog (gl3 0 2 3) 3 [.sym 0 .i64 (20) 10, .sym 1 .i64 (10 + 2) 6, .bool z2] (.bool true) := by
  cases z2
  · exact br_r20 2 _ rfl
  · exact br_r20 3 _ rfl
theorem br_all_10_7 [Sig] (z2 : Bool) : Ran Go.Proofs.Tryz.prog (gl3 0 2 3) 3 [.sym 0 .i64 (20) 10, .sym 1 .i64 (10 + 2) 7, .bool z2] (.bool true) := by
  cases z2
  · exact br_r20 4 _ rfl
  · exact br_r20 5 _ rfl
theorem br_all_10_8 [Sig] (z2 : Bool) : Ran Go.Proofs.Tryz.prog (gl3 0 2 3) 3 [.sym 0 .i64 (20) 10, .sym 1 .i64 (10 + 2) 8, .bool z2] (.bool true) := by
  cases z2
  · exact br_r20 6 _ rfl
  · exact br_r21 0 _ rfl
theorem br_all_10_9 [Sig] (z2 : Bool) : Ran Go.Proofs.Tryz.prog (gl3 0 2 3) 3 [.sym 0 .i64 (20) 10, .sym 1 .i64 (10 + 2) 9, .bool z2] (.bool true) := by
  cases z2
  · exact br_r21 1 _ rfl
  · exact br_r21 2 _ rfl
theorem br_all_10_10 [Sig] (z2 : Bool) : Ran Go.Proofs.Tryz.prog (gl3 0 2 3) 3 [.sym 0 .i64 (20) 10, .sym 1 .i64 (10 + 2) 10, .bool z2] (.bool true) := by
  cases z2
  · exact br_r21 3 _ rfl
  · exact br_r21 4 _ rfl
theorem br_all_10_11 [Sig] (z2 : Bool) : Ran Go.Proofs.Tryz.prog (gl3 0 2 3) 3 [.sym 0 .i64 (20) 10, .sym 1 .i64 (10 + 2) 11, .bool z2] (.bool true) := by
  cases z2
  · exact br_r21 5 _ rfl
  · exact br_r21 6 _ rfl
theorem br_all_10 [Sig] (r1 : Nat) (z2 : Bool) (h1 : r1 < 10 + 2) : Ran Go.Proofs.Tryz.prog (gl3 0 2 3) 3 [.sym 0 .i64 (20) 10, .sym 1 .i64 (10 + 2) r1, .bool z2] (.bool true) := by
  have hh : r1 = 0 ∨ r1 = 1 ∨ r1 = 2 ∨ r1 = 3 ∨ r1 = 4 ∨ r1 = 5 ∨ r1 = 6 ∨ r1 = 7 ∨ r1 = 8 ∨ r1 = 9 ∨ r1 = 10 ∨ r1 = 11 := by omega
  clear h1
  rcases hh with rfl | rfl | rfl | rfl | rfl | rfl | rfl | rfl | rfl | rfl | rfl | rfl
  · exact br_all_10_0 z2
  · exact br_all_10_1 z2
  · exact br_all_10_2 z2
  · exact br_all_10_3 z2
  · exact br_all_10_4 z2
  · exact br_all_10_5 z2
  · exact br_all_10_6 z2
  · exact br_all_10_7 z2
  · exact br_all_10_8 z2
  · exact br_all_10_9 z2
  · exact br_all_10_10 z2
  · exact br_all_10_11 z2
theorem br_all_11_0 [Sig] (z2 : Bool) : Ran Go.Proofs.Tryz.prog (gl3 0 2 3) 3 [.sym 0 .i64 (20) 11, .sym 1 .i64 (11 + 2) 0, .bool z2] (.bool true) := by
  cases z2
  · exact br_r22 0 _ rfl
  · exact br_r22 1 _ rfl
theorem br_all_11_1 [Sig] (z2 : Bool) : Ran Go.Proofs.Tryz.prog (gl3 0 2 3) 3 [.sym 0 .i64 (20) 11, .sym 1 .i64 (11 + 2) 1, .bool z2] (.bool true) := by
  cases z2
  · exact br_r22 2 _ rfl
  · exact br_r22 3 _ rfl
theorem br_all_11_2 [Sig] (z2 : Bool) : Ran Go.Proofs.Tryz.prog (gl3 0 2 3) 3 [.sym 0 .i64 (20) 11, .sym 1 .i64 (11 + 2) 2, .bool z2] (.bool true) := by
  cases z2
  · exact br_r22 4 _ rfl
  · exact br_r22 5 _ rfl
theorem br_all_11_3 [Sig] (z2 : Bool) : Ran Go.Proofs.Tryz.prog (gl3 0 2 3) 3 [.sym 0 .i64 (20) 11, .sym 1 .i64 (11 + 2) 3, .bool z2] (.bool true) := by
  cases z2
  · exact br_r22 6 _ rfl
  · exact br_r23 0 _ rfl
theorem br_all_11_4 [Sig] (z2 : Bool) : Ran Go.Proofs.Tryz.prog (gl3 0 2 3) 3 [.sym 0 .i64 (20) 11, .sym 1 .i64 (11 + 2) 4, .bool z2] (.bool true) := by
  cases z2
  · exact br_r23 1 _ rfl
  · exact br_r23 2 _ rfl
theorem br_all_11_5 [Sig] (z2 : Bool) : Ran Go.Proofs.Tryz.prog (gl3 0 2 3) 3 [.sym 0 .i64 (20) 11, .sym 1 .i64 (11 + 2) 5, .bool z2] (.bool true) := by
  cases z2
  · exact br_r23 3 _ rfl
  · exact br_r23 4 _ rfl
theorem br_all_11_6 [Sig] (z2 : Bool) : Ran Go.Proofs.Tryz.prog (gl3 0 2 3) 3 [.sym 0 .i64 (20) 11, .sym 1 .i64 (11 + 2) 6, .bool z2] (.bool true) := by
  cases z2
  · exact br_r23 5 _ rfl
  · exact br_r23 6 _ rfl
theorem br_all_11_7 [Sig] (z2 : Bool) : Ran Go.Proofs.Tryz.prog (gl3 0 2 3) 3 [.sym 0 .i64 (20) 11, .sym 1 .i64 (11 + 2) 7, .bool z2] (.bool true) := by
  cases z2
  · exact br_r24 0 _ rfl
  · exact br_r24 1 _ rfl
theorem br_all_11_8 [Sig] (z2 : Bool) : Ran Go.Proofs.Tryz.prog (gl3 0 2 3) 3 [.sym 0 .i64 (20) 11, .sym 1 .i64 (11 + 2) 8, .bool z2] (.bool true) := by
  cases z2
  · exact br_r24 2 _ rfl
  · exact br_r24 3 _ rfl
theorem br_all_11_9 [Sig] (z2 : Bool) : Ran Go.Proofs.Tryz.prog (gl3 0 2 3) 3 [.sym 0 .i64 (20) 11, .sym 1 .i64 (11 + 2) 9, .bool z2] (.bool true) := by
  cases z2
  · exact br_r24 4 _ rfl
  · exact br_r24 5 _ rfl
theorem br_all_11_10 [Sig] (z2 : Bool) : Ran Go.Proofs.Tryz.prog (gl3 0 2 3) 3 [.sym 0 .i64 (20) 11, .sym 1 .i64 (11 + 2) 10, .bool z2] (.bool true) := by
  cases z2
  · exact br_r24 6 _ rfl
  · exact br_r25 0 _ rfl
theorem br_all_11_11 [Sig] (z2 : Bool) : Ran Go.Proofs.Tryz.prog (gl3 0 2 3) 3 [.sym 0 .i64 (20) 11, .sym 1 .i64 (11 + 2) 11, .bool z2] (.bool true) := by
  cases z2
  · exact br_r25 1 _ rfl
  · exact br_r25 2 _ rfl
theorem br_all_11_12 [Sig] (z2 : Bool) : Ran Go.Proofs.Tryz.prog (gl3 0 2 3) 3 [.sym 0 .i64 (20) 11, .sym 1 .i64 (11 + 2) 12, .bool z2] (.bool true) := by
  cases z2
  · exact br_r25 3 _ rfl
  · exact br_r25 4 _ rfl
theorem br_all_11 [Sig] (r1 : Nat) (z2 : Bool) (h1 : r1 < 11 + 2) : Ran Go.Proofs.Tryz.prog (gl3 0 2 3) 3 [.sym 0 .i64 (20) 11, .sym 1 .i64 (11 + 2) r1, .bool z2] (.bool true) := by
  have hh : r1 = 0 ∨ r1 = 1 ∨ r1 = 2 ∨ r1 = 3 ∨ r1 = 4 ∨ r1 = 5 ∨ r1 = 6 ∨ r1 = 7 ∨ r1 = 8 ∨ r1 = 9 ∨ r1 = 10 ∨ r1 = 11 ∨ r1 = 12 := by omega
  clear h1
  rcases hh with rfl | rfl | rfl | rfl | rfl | rfl | rfl | rfl | rfl | rfl | rfl | rfl | rfl
  · exact br_all_11_0 z2
  · exact br_all_11_1 z2
  · exact br_all_11_2 z2
  · exact br_all_11_3 z2
  · exact br_all_11_4 z2
  · exact br_all_11_5 z2
  · exact br_all_11_6 z2
  · exact br_all_11_7 z2
  · exact br_all_11_8 z2
  · exact br_all_11_9 z2
  · exact br_all_11_10 z2
  · exact br_all_11_11 z2
  · exact br_all_11_12 z2
theorem br_all_12_0 [Sig] (z2 : Bool) : Ran Go.Proofs.Tryz.prog (gl3 0 2 3) 3 [.sym 0 .i64 (20) 12, .sym 1 .i64 (12 + 2) 0, .bool z2] (.bool true) := by
  cases z2
  · exact br_r25 5 _ rfl
  · exact br_r25 6 _ rfl
theorem br_all_12_1 [Sig] (z2 : Bool) : Ran Go.Proofs.Tryz.prog (gl3 0 2 3) 3 [.sym 0 .i64 (20) 12, .sym 1 .i64 (12 + 2) 1, .bool z2] (.bool true) := by
  cases z2
  · exact br_r26 0 _ rfl
  · exact br_r26 1 _ rfl
theorem br_all_12_2 [Sig] (z2 : Bool) : Ran Go.Proofs.Tryz.prog (gl3 0 2 3) 3 [.sym 0 .i64 (20) 12, .sym 1 .i64 (12 + 2) 2, .bool z2] (.bool true) := by
  cases z2
  · exact br_r26 2 _ rfl
  · exact br_r26 3 _ rfl
theorem br_all_12_3 [Sig] (z2 : Bool) : Ran Go.Proofs.Tryz.prog (gl3 0 2 3) 3 [.sym 0 .i64 (20) 12, .sym 1 .i64 (12 + 2) 3, .bool z2] (.bool true) := by
  cases z2
  · exact br_r26 4 _ rfl
  · exact br_r26 5 _ rfl
theorem br_all_12_4 [Sig] (z2 : Bool) : Ran Go.Proofs.Tryz.prog (gl3 0 2 3) 3 [.sym 0 .i64 (20) 12, .sym 1 .i64 (12 + 2) 4, .bool z2] (.bool true) := by
  cases z2
  · exact br_r26 6 _ rfl
  · exact br_r27 0 _ rfl
theorem br_all_12_5 [Sig] (z2 : Bool) : Ran Go.Proofs.Tryz.prog (gl3 0 2 3) 3 [.sym 0 .i64 (20) 12, .sym 1 .i64 (12 + 2) 5, .bool z2] (.bool true) := by
  cases z2
  · exact br_r27 1 _ rfl
  · exact br_r27 2 _ rfl
theorem br_all_12_6 [Sig] (z2 : Bool) : Ran Go.Proofs.Tryz.prog (gl3 0 2 3) 3 [.sym 0 .i64 (20) 12, .sym 1 .i64 (12 + 2) 6, .bool z2] (.bool true) := by
  cases z2
  · exact br_r27 3 _ rfl
  · exact br_r27 4 _ rfl
theorem br_all_12_7 [Sig] (z2 : Bool) : Ran Go.Proofs.Tryz.prog (gl3 0 2 3) 3 [.sym 0 .i64 (20) 12, .sym 1 .i64 (12 + 2) 7, .bool z2] (.bool true) := by
  cases z2
  · exact br_r27 5 _ rfl
  · exact br_r27 6 _ rfl
theorem br_all_12_8 [Sig] (z2 : Bool) : Ran Go.Proofs.Tryz.prog (gl3 0 2 3) 3 [.sym 0 .i64 (20) 12, .sym 1 .i64 (12 + 2) 8, .bool z2] (.bool true) := by
  cases z2
  · exact br_r28 0 _ rfl
  · exact br_r28 1 _ rfl
theorem br_all_12_9 [Sig] (z2 : Bool) : Ran Go.Proofs.Tryz.prog (gl3 0 2 3) 3 [.sym 0 .i64 (20) 12, .sym 1 .i64 (12 + 2) 9, .bool z2] (.bool true) := by
  cases z2
  · exact br_r28 2 _ rfl
  · exact br_r28 3 _ rfl
theorem br_all_12_10 [Sig] (z2 : Bool) : Ran Go.Proofs.Tryz.prog (gl3 0 2 3) 3 [.sym 0 .i64 (20) 12, .sym 1 .i64 (12 + 2) 10, .bool z2] (.bool true) := by
  cases z2
  · exact br_r28 4 _ rfl
  · exact br_r28 5 _ rfl
theorem br_all_12_11 [Sig] (z2 : Bool) : Ran Go.Proofs.Tryz.prog (gl3 0 2 3) 3 [.sym 0 .i64 (20) 12, .sym 1 .i64 (12 + 2) 11, .bool z2] (.bool true) := by
  cases z2
  · exact br_r28 6 _ rfl
  · exact br_r29 0 _ rfl
theorem br_all_12_12 [Sig] (z2 : Bool) : Ran Go.Proofs.Tryz.prog (gl3 0 2 3) 3 [.sym 0 .i64 (20) 12, .sym 1 .i64 (12 + 2) 12, .bool z2] (.bool true) := by
  cases z2
  · exact br_r29 1 _ rfl
  · exact br_r29 2 _ rfl
theorem br_all_12_13 [Sig] (z2 : Bool) : Ran Go.Proofs.Tryz.prog (gl3 0 2 3) 3 [.sym 0 .i64 (20) 12, .sym 1 .i64 (12 + 2) 13, .bool z2] (.bool true) := by
  cases z2
  · exact br_r29 3 _ rfl
  · exact br_r29 4 _ rfl
theorem br_all_12 [Sig] (r1 : Nat) (z2 : Bool) (h1 : r1 < 12 + 2) : Ran Go.Proofs.Tryz.prog (gl3 0 2 3) 3 [.sym 0 .i64 (20) 12, .sym 1 .i64 (12 + 2) r1, .bool z2] (.bool true) := by
  have hh : r1 = 0 ∨ r1 = 1 ∨ r1 = 2 ∨ r1 = 3 ∨ r1 = 4 ∨ r1 = 5 ∨ r1 = 6 ∨ r1 = 7 ∨ r1 = 8 ∨ r1 = 9 ∨ r1 = 10 ∨ r1 = 11 ∨ r1 = 12 ∨ r1 = 13 := by omega
  clear h1
  rcases hh with rfl | rfl | rfl | rfl | rfl | rfl | rfl | rfl | rfl | rfl | rfl | rfl | rfl | rfl
  · exact br_all_12_0 z2
  · exact br_all_12_1 z2
  · exact br_all_12_2 z2
  · exact br_all_12_3 z2
  · exact br_all_12_4 z2
  · exact br_all_12_5 z2
  · exact br_all_12_6 z2
  · exact br_all_12_7 z2
  · exact br_all_12_8 z2
  · exact br_all_12_9 z2
  · exact br_all_12_10 z2
  · exact br_all_12_11 z2
  · exact br_all_12_12 z2
  · exact br_all_12_13 z2
theorem br_all_13_0 [Sig] (z2 : Bool) : Ran Go.Proofs.Tryz.prog (gl3 0 2 3) 3 [.sym 0 .i64 (20) 13, .sym 1 .i64 (13 + 2) 0, .bool z2] (.bool true) := by
  cases z2
  · exact br_r29 5 _ rfl
  · exact br_r29 6 _ rfl
theorem br_all_13_1 [Sig] (z2 : Bool) : Ran Go.Proofs.Tryz.prog (gl3 0 2 3) 3 [.sym 0 .i64 (20) 13, .sym 1 .i64 (13 + 2) 1, .bool z2] (.bool true) := by
  cases z2
  · exact br_r30 0 _ rfl
  · exact br_r30 1 _ rfl
theorem br_all_13_2 [Sig] (z2 : Bool) : Ran Go.Proofs.Tryz.prog (gl3 0 2 3) 3 [.sym 0 .i64 (20) 13, .sym 1 .i64 (13 + 2) 2, .bool z2] (.bool true) := by
  cases z2
  · exact br_r30 2 _ rfl
  · exact br_r30 3 _ rfl
theorem br_all_13_3 [Sig] (z2 : Bool) : Ran Go.Proofs.Tryz.prog (gl3 0 2 3) 3 [.sym 0 .i64 (20) 13, .sym 1 .i64 (13 + 2) 3, .bool z2] (.bool true) := by
  cases z2
  · exact br_r30 4 _ rfl
  · exact br_r30 5 _ rfl
theorem br_all_13_4 [Sig] (z2 : Bool) : Ran Go.Proofs.Tryz.prog (gl3 0 2 3) 3 [.sym 0 .i64 (20) 13, .sym 1 .i64 (13 + 2) 4, .bool z2] (.bool true) := by
  cases z2
  · exact br_r30 6 _ rfl
  · exact br_r31 0 _ rfl
theorem br_all_13_5 [Sig] (z2 : Bool) : Ran Go.Proofs.Tryz.prog (gl3 0 2 3) 3 [.sym 0 .i64 (20) 13, .sym 1 .i64 (13 + 2) 5, .bool z2] (.bool true) := by
  cases z2
  · exact br_r31 1 _ rfl
  · exact br_r31 2 _ rfl
theorem br_all_13_6 [Sig] (z2 : Bool) : Ran Go.Proofs.Tryz.prog (gl3 0 2 3) 3 [.sym 0 .i64 (20) 13, .sym 1 .i64 (13 + 2) 6, .bool z2] (.bool true) := by
  cases z2
  · exact br_r31 3 _ rfl
  · exact br_r31 4 _ rfl
theorem br_all_13_7 [Sig] (z2 : Bool) : Ran Go.Proofs.Tryz.prog (gl3 0 2 3) 3 [.sym 0 .i64 (20) 13, .sym 1 .i64 (13 + 2) 7, .bool z2] (.bool true) := by
  cases z2
  · exact br_r31 5 _ rfl
  · exact br_r31 6 _ rfl
theorem br_all_13_8 [Sig] (z2 : Bool) : Ran Go.Proofs.Tryz.prog (gl3 0 2 3) 3 [.sym 0 .i64 (20) 13, .sym 1 .i64 (13 + 2) 8, .bool z2] (.bool true) := by
  cases z2
  · exact br_r32 0 _ rfl
  · exact br_r32 1 _ rfl
theorem br_all_13_9 [Sig] (z2 : Bool) : Ran Go.Proofs.Tryz.prog (gl3 0 2 3) 3 [.sym 0 .i64 (20) 13, .sym 1 .i64 (13 + 2) 9, .bool z2] (.bool true) := by
  cases z2
  · exact br_r32 2 _ rfl
  · exact br_r32 3 _ rfl
theorem br_all_13_10 [Sig] (z2 : Bool) : Ran Go.Proofs.Tryz.prog (gl3 0 2 3) 3 [.sym 0 .i64 (20) 13, .sym 1 .i64 (13 + 2) 10, .bool z2] (.bool true) := by
  cases z2
  · exact br_r32 4 _ rfl
  · exact br_r32 5 _ rfl
theorem br_all_13_11 [Sig] (z2 : Bool) : Ran Go.Proofs.Tryz.prog (gl3 0 2 3) 3 [.sym 0 .i64 (20) 13, .sym 1 .i64 (13 + 2) 11, .bool z2] (.bool true) := by
  cases z2
  · exact br_r32 6 _ rfl
  · exact br_r33 0 _ rfl
theorem br_all_13_12 [Sig] (z2 : Bool) : Ran Go.Proofs.Tryz.prog (gl3 0 2 3) 3 [.sym 0 .i64 (20) 13, .sym 1 .i64 (13 + 2) 12, .bool z2] (.bool true) := by
  cases z2
  · exact br_r33 1 _ rfl
  · exact br_r33 2 _ rfl
theorem br_all_13_13 [Sig] (z2 : Bool) : Ran Go.Proofs.Tryz.prog (gl3 0 2 3) 3 [.sym 0 .i64 (20) 13, .sym 1 .i64 (13 + 2) 13, .bool z2] (.bool true) := by
  cases z2
  · exact br_r33 3 _ rfl
  · exact br_r33 4 _ rfl
theorem br_all_13_14 [Sig] (z2 : Bool) : Ran Go.Proofs.Tryz.prog (gl3 0 2 3) 3 [.sym 0 .i64 (20) 13, .sym 1 .i64 (13 + 2) 14, .bool z2] (.bool true) := by
  cases z2
  · exact br_r33 5 _ rfl
  · exact br_r33 6 _ rfl
theorem br_all_13 [Sig] (r1 : Nat) (z2 : Bool) (h1 : r1 < 13 + 2) : Ran Go.Proofs.Tryz.prog (gl3 0 2 3) 3 [.sym 0 .i64 (20) 13, .sym 1 .i64 (13 + 2) r1, .bool z2] (.bool true) := by
  have hh : r1 = 0 ∨ r1 = 1 ∨ r1 = 2 ∨ r1 = 3 ∨ r1 = 4 ∨ r1 = 5 ∨ r1 = 6 ∨ r1 = 7 ∨ r1 = 8 ∨ r1 = 9 ∨ r1 = 10 ∨ r1 = 11 ∨ r1 = 12 ∨ r1 = 13 ∨ r1 = 14 := by omega
  clear h1
  rcases hh with rfl | rfl | rfl | rfl | rfl | rfl | rfl | rfl | rfl | rfl | rfl | rfl | rfl | rfl | rfl
  · exact br_all_13_0 z2
  · exact br_all_13_1 z2
  · exact br_all_13_2 z2
  · exact br_all_13_3 z2
  · exact br_all_13_4 z2
  · exact br_all_13_5 z2
  · exact br_all_13_6 z2
  · exact br_all_13_7 z2
  · exact br_all_13_8 z2
  · exact br_all_13_9 z2
  · exact br_all_13_10 z2
  · exact br_all_13_11 z2
  · exact br_all_13_12 z2
  · exact br_all_13_13 z2
  · exact br_all_13_14 z2
theorem br_all_14_0 [Sig] (z2 : Bool) : Ran Go.Proofs.Tryz.prog (gl3 0 2 3) 3 [.sym 0 .i64 (20) 14, .sym 1 .i64 (14 + 2) 0, .bool z2] (.bool true) := by
  cases z2
  · exact br_r34 0 _ rfl
  · exact br_r34 1 _ rfl
theorem br_all_14_1 [Sig] (z2 : Bool) : Ran Go.Proofs.Tryz.prog (gl3 0 2 3) 3 [.sym 0 .i64 (20) 14, .sym 1 .i64 (14 + 2) 1, .bool z2] (.bool true) := by
  cases z2
  · exact br_r34 2 _ rfl
  · exact br_r34 3 _ rfl
theorem br_all_14_2 [Sig] (z2 : Bool) : Ran Go.Proofs.Tryz.prog (gl3 0 2 3) 3 [.sym 0 .i64 (20) 14, .sym 1 .i64 (14 + 2) 2, .bool z2] (.bool true) := by
  cases z2
  · exact br_r34 4 _ rfl
  · exact br_r34 5 _ rfl
theorem br_all_14_3 [Sig] (z2 : Bool) : Ran Go.Proofs.Tryz.prog (gl3 0 2 3) 3 [.sym 0 .i64 (20) 14, .sym 1 .i64 (14 + 2) 3, .bool z2] (.bool true) := by
  cases z2
  · exact br_r34 6 _ rfl
  · exact br_r35 0 _ rfl
theorem br_all_14_4 [Sig] (z2 : Bool) : Ran Go.Proofs.Tryz.prog (gl3 0 2 3) 3 [.sym 0 .i64 (20) 14, .sym 1 .i64 (14 + 2) 4, .bool z2] (.bool true) := by
  cases z2
  · exact br_r35 1 _ rfl
  · exact br_r35 2 _ rfl
theorem br_all_14_5 [Sig] (z2 : Bool) : Ran Go.Proofs.Tryz.prog (gl3 0 2 3) 3 [.sym 0 .i64 (20) 14, .sym 1 .i64 (14 + 2) 5, .bool z2] (.bool true) := by
  cases z2
  · exact br_r35 3 _ rfl
  · exact br_r35 4 _ rfl
theorem br_all_14_6 [Sig] (z2 : Bool) : Ran Go.Proofs.Tryz.prog (gl3 0 2 3) 3 [.sym 0 .i64 (20) 14, .sym 1 .i64 (14 + 2) 6, .bool z2] (.bool true) := by
  cases z2
  · exact br_r35 5 _ rfl
  · exact br_r35 6 _ rfl
theorem br_all_14_7 [Sig] (z2 : Bool) : Ran Go.Proofs.Tryz.prog (gl3 0 2 3) 3 [.sym 0 .i64 (20) 14, .sym 1 .i64 (14 + 2) 7, .bool z2] (.bool true) := by
  cases z2
  · exact br_r36 0 _ rfl
  · exact br_r36 1 _ rfl
theorem br_all_14_8 [Sig] (z2 : Bool) : Ran Go.Proofs.Tryz.prog (gl3 0 2 3) 3 [.sym 0 .i64 (20) 14, .sym 1 .i64 (14 + 2) 8, .bool z2] (.bool true) := by
  cases z2
  · exact br_r36 2 _ rfl
  · exact br_r36 3 _ rfl
theorem br_all_14_9 [Sig] (z2 : Bool) : Ran Go.Proofs.Tryz.prog (gl3 0 2 3) 3 [.sym 0 .i64 (20) 14, .sym 1 .i64 (14 + 2) 9, .bool z2] (.bool true) := by
  cases z2
  · exact br_r36 4 _ rfl
  · exact br_r36 5 _ rfl
theorem br_all_14_10 [Sig] (z2 : Bool) : Ran Go.Proofs.Tryz.prog (gl3 0 2 3) 3 [.sym 0 .i64 (20) 14, .sym 1 .i64 (14 + 2) 10, .bool z2] (.bool true) := by
  cases z2
  · exact br_r36 6 _ rfl
  · exact br_r37 0 _ rfl
theorem br_all_14_11 [Sig] (z2 : Bool) : Ran Go.Proofs.Tryz.prog (gl3 0 2 3) 3 [.sym 0 .i64 (20) 14, .sym 1 .i64 (14 + 2) 11, .bool z2] (.bool true) := by
  cases z2
  · exact br_r37 1 _ rfl
  · exact br_r37 2 _ rfl
theorem br_all_14_12 [Sig] (z2 : Bool) : Ran Go.Proofs.Tryz.prog (gl3 0 2 3) 3 [.sym 0 .i64 (20) 14, .sym 1 .i64 (14 + 2) 12, .bool z2] (.bool true) := by
  cases z2
  · exact br_r37 3 _ rfl
  · exact br_r37 4 _ rfl
theorem br_all_14_13 [Sig] (z2 : Bool) : Ran Go.Proofs.Tryz.prog (gl3 0 2 3) 3 [.sym 0 .i64 (20) 14, .sym 1 .i64 (14 + 2) 13, .bool z2] (.bool true) := by
  cases z2
  · exact br_r37 5 _ rfl
  · exact br_r37 6 _ rfl
theorem br_all_14_14 [Sig] (z2 : Bool) : Ran Go.Proofs.Tryz.prog (gl3 0 2 3) 3 [.sym 0 .i64 (20) 14, .sym 1 .i64 (14 + 2) 14, .bool z2] (.bool true) := by
  cases z2
  · exact br_r38 0 _ rfl
  · exact br_r38 1 _ rfl
theorem br_all_14_15 [Sig] (z2 : Bool) : Ran Go.Proofs.Tryz.prog (gl3 0 2 3) 3 [.sym 0 .i64 (20) 14, .sym 1 .i64 (14 + 2) 15, .bool z2] (.bool true) := by
  cases z2
  · exact br_r38 2 _ rfl
  · exact br_r38 3 _ rfl
theorem br_all_14 [Sig] (r1 : Nat) (z2 : Bool) (h1 : r1 < 14 + 2) : Ran Go.Proofs.Tryz.prog (gl3 0 2 3) 3 [.sym 0 .i64 (20) 14, .sym 1 .i64 (14 + 2) r1, .bool z2] (.bool true) := by
  have hh : r1 = 0 ∨ r1 = 1 ∨ r1 = 2 ∨ r1 = 3 ∨ r1 = 4 ∨ r1 = 5 ∨ r1 = 6 ∨ r1 = 7 ∨ r1 = 8 ∨ r1 = 9 ∨ r1 = 10 ∨ r1 = 11 ∨ r1 = 12 ∨ r1 = 13 ∨ r1 = 14 ∨ r1 = 15 := by omega
  clear h1
  rcases hh with rfl | rfl | rfl | rfl | rfl | rfl | rfl | rfl | rfl | rfl | rfl | rfl | rfl | rfl | rfl | rfl
  · exact br_all_14_0 z2
  · exact br_all_14_1 z2
  · exact br_all_14_2 z2
  · exact br_all_14_3 z2
  · exact br_all_14_4 z2
  · exact br_all_14_5 z2
  · exact br_all_14_6 z2
  · exact br_all_14_7 z2
  · exact br_all_14_8 z2
  · exact br_all_14_9 z2
  · exact br_all_14_10 z2
  · exact br_all_14_11 z2
  · exact br_all_14_12 z2
  · exact br_all_14_13 z2
  · exact br_all_14_14 z2
  · exact br_all_14_15 z2
theorem br_all_15_0 [Sig] (z2 : Bool) : Ran Go.Proofs.Tryz.prog (gl3 0 2 3) 3 [.sym 0 .i64 (20) 15, .sym 1 .i64 (15 + 2) 0, .bool z2] (.bool true) := by
  cases z2
  · exact br_r38 4 _ rfl
  · exact br_r38 5 _ rfl
theorem br_all_15_1 [Sig] (z2 : Bool) : Ran Go.Proofs.Tryz.prog (gl3 0 2 3) 3 [.sym 0 .i64 (20) 15, .sym 1 .i64 (15 + 2) 1, .bool z2] (.bool true) := by
  cases z2
  · exact br_r38 6 _ rfl
  · exact br_r39 0 _ rfl
theorem br_all_15_2 [Sig] (z2 : Bool) : Ran Go.Proofs.Tryz.prog (gl3 0 2 3) 3 [.sym 0 .i64 (20) 15, .sym 1 .i64 (15 + 2) 2, .bool z2] (.bool true) := by
  cases z2
  · exact br_r39 1 _ rfl
  · exact br_r39 2 _ rfl
theorem br_all_15_3 [Sig] (z2 : Bool) : Ran Go.Proofs.Tryz.prog (gl3 0 2 3) 3 [.sym 0 .i64 (20) 15, .sym 1 .i64 (15 + 2) 3, .bool z2] (.bool true) := by
  cases z2
  · exact br_r39 3 _ rfl
  · exact br_r39 4 _ rfl
theorem br_all_15_4 [Sig] (z2 : Bool) : Ran Go.Proofs.Tryz.prog (gl3 0 2 3) 3 [.sym 0 .i64 (20) 15, .sym 1 .i64 (15 + 2) 4, .bool z2] (.bool true) := by
  cases z2
  · exact br_r39 5 _ rfl
  · exact br_r39 6 _ rfl
theorem br_all_15_5 [Sig] (z2 : Bool) : Ran Go.Proofs.Tryz.prog (gl3 0 2 3) 3 [.sym 0 .i64 (20) 15, .sym 1 .i64 (15 + 2) 5, .bool z2] (.bool true) := by
  cases z2
  · exact br_r40 0 _ rfl
  · exact br_r40 1 _ rfl
theorem br_all_15_6 [Sig] (z2 : Bool) : Ran Go.Proofs.Tryz.prog (gl3 0 2 3) 3 [.sym 0 .i64 (20) 15, .sym 1 .i64 (15 + 2) 6, .bool z2] (.bool true) := by
  cases z2
  · exact br_r40 2 _ rfl
  · exact br_r40 3 _ rfl
theorem br_all_15_7 [Sig] (z2 : Bool) : Ran Go.Proofs.Tryz.prog (gl3 0 2 3) 3 [.sym 0 .i64 (20) 15, .sym 1 .i64 (15 + 2) 7, .bool z2] (.bool true) := by
  cases z2
  · exact br_r40 4 _ rfl
  · exact br_r40 5 _ rfl
theorem br_all_15_8 [Sig] (z2 : Bool) : Ran Go.Proofs.Tryz.prog (gl3 0 2 3) 3 [.sym 0 .i64 (20) 15, .sym 1 .i64 (15 + 2) 8, .bool z2] (.bool true) := by
  cases z2
  · exact br_r40 6 _ rfl
  · exact br_r41 0 _ rfl
theorem br_all_15_9 [Sig] (z2 : Bool) : Ran Go.Proofs.Tryz.prog (gl3 0 2 3) 3 [.sym 0 .i64 (20) 15, .sym 1 .i64 (15 + 2) 9, .bool z2] (.bool true) := by
  cases z2
  · exact br_r41 1 _ rfl
  · exact br_r41 2 _ rfl
theorem br_all_15_10 [Sig] (z2 : Bool) : Ran Go.Proofs.Tryz.prog (gl3 0 2 3) 3 [.sym 0 .i64 (20) 15, .sym 1 .i64 (15 + 2) 10, .bool z2] (.bool true) := by
  cases z2
  · exact br_r41 3 _ rfl
  · exact br_r41 4 _ rfl
theorem br_all_15_11 [Sig] (z2 : Bool) : Ran Go.Proofs.Tryz.prog (gl3 0 2 3) 3 [.sym 0 .i64 (20) 15, .sym 1 .i64 (15 + 2) 11, .bool z2] (.bool true) := by
  cases z2
  · exact br_r41 5 _ rfl
  · exact br_r41 6 _ rfl
theorem br_all_15_12 [Sig] (z2 : Bool) : Ran Go.Proofs.Tryz.prog (gl3 0 2 3) 3 [.sym 0 .i64 (20) 15, .sym 1 .i64 (15 + 2) 12, .bool z2] (.bool true) := by
  cases z2
  · exact br_r42 0 _ rfl
  · exact br_r42 1 _ rfl
theorem br_all_15_13 [Sig] (z2 : Bool) : Ran Go.Proofs.Tryz.prog (gl3 0 2 3) 3 [.sym 0 .i64 (20) 15, .sym 1 .i64 (15 + 2) 13, .bool z2] (.bool true) := by
  cases z2
  · exact br_r42 2 _ rfl
  · exact br_r42 3 _ rfl
theorem br_all_15_14 [Sig] (z2 : Bool) : Ran Go.Proofs.Tryz.prog (gl3 0 2 3) 3 [.sym 0 .i64 (20) 15, .sym 1 .i64 (15 + 2) 14, .bool z2] (.bool true) := by
  cases z2
  · exact br_r42 4 _ rfl
  · exact br_r42 5 _ rfl
theorem br_all_15_15 [Sig] (z2 : Bool) : Ran Go.Proofs.Tryz.prog (gl3 0 2 3) 3 [.sym 0 .i64 (20) 15, .sym 1 .i64 (15 + 2) 15, .bool z2] (.bool true) := by
  cases z2
  · exact br_r42 6 _ rfl
  · exact br_r43 0 _ rfl
theorem br_all_15_16 [Sig] (z2 : Bool) : Ran Go.Proofs.Tryz.prog (gl3 0 2 3) 3 [.sym 0 .i64 (20) 15, .sym 1 .i64 (15 + 2) 16, .bool z2] (.bool true) := by
  cases z2
  · exact br_r43 1 _ rfl
  · exact br_r43 2 _ rfl
theorem br_all_15 [Sig] (r1 : Nat) (z2 : Bool) (h1 : r1 < 15 + 2) : Ran Go.Proofs.Tryz.prog (gl3 0 2 3) 3 [.sym 0 .i64 (20) 15, .sym 1 .i64 (15 + 2) r1, .bool z2] (.bool true) := by
  have hh : r1 = 0 ∨ r1 = 1 ∨ r1 = 2 ∨ r1 = 3 ∨ r1 = 4 ∨ r1 = 5 ∨ r1 = 6 ∨ r1 = 7 ∨ r1 = 8 ∨ r1 = 9 ∨ r1 = 10 ∨ r1 = 11 ∨ r1 = 12 ∨ r1 = 13 ∨ r1 = 14 ∨ r1 = 15 ∨ r1 = 16 := by omega
  clear h1
  rcases hh with rfl | rfl | rfl | rfl | rfl | rfl | rfl | rfl | rfl | rfl | rfl | rfl | rfl | rfl | rfl | rfl | rfl
  · exact br_all_15_0 z2
  · exact br_all_15_1 z2
  · exact br_all_15_2 z2
  · exact br_all_15_3 z2
  · exact br_all_15_4 z2
  · exact br_all_15_5 z2
  · exact br_all_15_6 z2
  · exact br_all_15_7 z2
  · exact br_all_15_8 z2
  · exact br_all_15_9 z2
  · exact br_all_15_10 z2
  · exact br_all_15_11 z2
  · exact br_all_15_12 z2
  · exact br_all_15_13 z2
  · exact br_all_15_14 z2
  · exact br_all_15_15 z2
  · exact br_all_15_16 z2
theorem br_all_16_0 [Sig] (z2 : Bool) : Ran Go.Proofs.Tryz.prog (gl3 0 2 3) 3 [.sym 0 .i64 (20) 16, .sym 1 .i64 (16 + 2) 0, .bool z2] (.bool true) := by
  cases z2
  · exact br_r43 3 _ rfl
  · exact br_r43 4 _ rfl
theorem br_all_16_1 [Sig] (z2 : Bool) : Ran Go.Proofs.Tryz.prog (gl3 0 2 3) 3 [.sym 0 .i64 (20) 16, .sym 1 .i64 (16 + 2) 1, .bool z2] (.bool true) := by
  cases z2
  · exact br_r43 5 _ rfl
  · exact br_r43 6 _ rfl
theorem br_all_16_2 [Sig] (z2 : Bool) : Ran Go.Proofs.Tryz.prog (gl3 0 2 3) 3 [.sym 0 .i64 (20) 16, .sym 1 .i64 (16 + 2) 2, .bool z2] (.bool true) := by
  cases z2
  · exact br_r44 0 _ rfl
  · exact br_r44 1 _ rfl
theorem br_all_16_3 [Sig] (z2 : Bool) : Ran Go.Proofs.Tryz.prog (gl3 0 2 3) 3 [.sym 0 .i64 (20) 16, .sym 1 .i64 (16 + 2) 3, .bool z2] (.bool true) := by
  cases z2
  · exact br_r44 2 _ rfl
  · exact br_r44 3 _ rfl
theorem br_all_16_4 [Sig] (z2 : Bool) : Ran Go.Proofs.Tryz.prog (gl3 0 2 3) 3 [.sym 0 .i64 (20) 16, .sym 1 .i64 (16 + 2) 4, .bool z2] (.bool true) := by
  cases z2
  · exact br_r44 4 _ rfl
  · exact br_r44 5 _ rfl
theorem br_all_16_5 [Sig] (z2 : Bool) : Ran Go.Proofs.Tryz.prog (gl3 0 2 3) 3 [.sym 0 .i64 (20) 16, .sym 1 .i64 (16 + 2) 5, .bool z2] (.bool true) := by
  cases z2
  · exact br_r44 6 _ rfl
  · exact br_r45 0 _ rfl
theorem br_all_16_6 [Sig] (z2 : Bool) : Ran Go.Proofs.Tryz.prog (gl3 0 2 3) 3 [.sym 0 .i64 (20) 16, .sym 1 .i64 (16 + 2) 6, .bool z2] (.bool true) := by
  cases z2
  · exact br_r45 1 _ rfl
  · exact br_r45 2 _ rfl
theorem br_all_16_7 [Sig] (z2 : Bool) : Ran Go.Proofs.Tryz.prog (gl3 0 2 3) 3 [.sym 0 .i64 (20) 16, .sym 1 .i64 (16 + 2) 7, .bool z2] (.bool true) := by
  cases z2
  · exact br_r45 3 _ rfl
  · exact br_r45 4 _ rfl
theorem br_all_16_8 [Sig] (z2 : Bool) : Ran Go.Proofs.Tryz.prog (gl3 0 2 3) 3 [.sym 0 .i64 (20) 16, .sym 1 .i64 (16 + 2) 8, .bool z2] (.bool true) := by
  cases z2
  · exact br_r45 5 _ rfl
  · exact br_r45 6 _ rfl
theorem br_all_16_9 [Sig] (z2 : Bool) : Ran Go.Proofs.Tryz.prog (gl3 0 2 3) 3 [.sym 0 .i64 (20) 16, .sym 1 .i64 (16 + 2) 9, .bool z2] (.bool true) := by
  cases z2
  · exact br_r46 0 _ rfl
  · exact br_r46 1 _ rfl
theorem br_all_16_10 [Sig] (z2 : Bool) : Ran Go.Proofs.Tryz.prog (gl3 0 2 3) 3 [.sym 0 .i64 (20) 16, .sym 1 .i64 (16 + 2) 10, .bool z2] (.bool true) := by
  cases z2
  · exact br_r46 2 _ rfl
  · exact br_r46 3 _ rfl
theorem br_all_16_11 [Sig] (z2 : Bool) : Ran Go.Proofs.Tryz.prog (gl3 0 2 3) 3 [.sym 0 .i64 (20) 16, .sym 1 .i64 (16 + 2) 11, .bool z2] (.bool true) := by
  cases z2
  · exact br_r46 4 _ rfl
  · exact br_r46 5 _ rfl
theorem br_all_16_12 [Sig] (z2 : Bool) : Ran Go.Proofs.Tryz.prog (gl3 0 2 3) 3 [.sym 0 .i64 (20) 16, .sym 1 .i64 (16 + 2) 12, .bool z2] (.bool true) := by
  cases z2
  · exact br_r46 6 _ rfl
  · exact br_r47 0 _ rfl
theorem br_all_16_13 [Sig] (z2 : Bool) : Ran Go.Proofs.Tryz.prog (gl3 0 2 3) 3 [.sym 0 .i64 (20) 16, .sym 1 .i64 (16 + 2) 13, .bool z2] (.bool true) := by
  cases z2
  · exact br_r47 1 _ rfl
  · exact br_r47 2 _ rfl
theorem br_all_16_14 [Sig] (z2 : Bool) : Ran Go.Proofs.Tryz.prog (gl3 0 2 3) 3 [.sym 0 .i64 (20) 16, .sym 1 .i64 (16 + 2) 14, .bool z2] (.bool true) := by
  cases z2
  · exact br_r47 3 _ rfl
  · exact br_r47 4 _ rfl
theorem br_all_16_15 [Sig] (z2 : Bool) : Ran Go.Proofs.Tryz.prog (gl3 0 2 3) 3 [.sym 0 .i64 (20) 16, .sym 1 .i64 (16 + 2) 15, .bool z2] (.bool true) := by
  cases z2
  · exact br_r47 5 _ rfl
  · exact br_r47 6 _ rfl
theorem br_all_16_16 [Sig] (z2 : Bool) : Ran Go.Proofs.Tryz.prog (gl3 0 2 3) 3 [.sym 0 .i64 (20) 16, .sym 1 .i64 (16 + 2) 16, .bool z2] (.bool true) := by
  cases z2
  · exact br_r48 0 _ rfl
  · exact br_r48 1 _ rfl
theorem br_all_16_17 [Sig] (z2 : Bool) : Ran Go.Proofs.Tryz.prog (gl3 0 2 3) 3 [.sym 0 .i64 (20) 16, .sym 1 .i64 (16 + 2) 17, .bool z2] (.bool true) := by
  cases z2
  · exact br_r48 2 _ rfl
  · exact br_r48 3 _ rfl
theorem br_all_16 [Sig] (r1 : Nat) (z2 : Bool) (h1 : r1 < 16 + 2) : Ran Go.Proofs.Tryz.prog (gl3 0 2 3) 3 [.sym 0 .i64 (20) 16, .sym 1 .i64 (16 + 2) r1, .bool z2] (.bool true) := by
  have hh : r1 = 0 ∨ r1 = 1 ∨ r1 = 2 ∨ r1 = 3 ∨ r1 = 4 ∨ r1 = 5 ∨ r1 = 6 ∨ r1 = 7 ∨ r1 = 8 ∨ r1 = 9 ∨ r1 = 10 ∨ r1 = 11 ∨ r1 = 12 ∨ r1 = 13 ∨ r1 = 14 ∨ r1 = 15 ∨ r1 = 16 ∨ r1 = 17 := by omega
  clear h1
  rcases hh with rfl | rfl | rfl | rfl | rfl | rfl | rfl | rfl | rfl | rfl | rfl | rfl | rfl | rfl | rfl | rfl | rfl | rfl
  · exact br_all_16_0 z2
  · exact br_all_16_1 z2
  · exact br_all_16_2 z2
  · exact br_all_16_3 z2
  · exact br_all_16_4 z2
  · exact br_all_16_5 z2
  · exact br_all_16_6 z2
  · exact br_all_16_7 z2
  · exact br_all_16_8 z2
  · exact br_all_16_9 z2
  · exact br_all_16_10 z2
  · exact br_all_16_11 z2
  · exact br_all_16_12 z2
  · exact br_all_16_13 z2
  · exact br_all_16_14 z2
  · exact br_all_16_15 z2
  · exact br_all_16_16 z2
  · exact br_all_16_17 z2
theorem br_all_17_0 [Sig] (z2 : Bool) : Ran Go.Proofs.Tryz.prog (gl3 0 2 3) 3 [.sym 0 .i64 (20) 17, .sym 1 .i64 (17 + 2) 0, .bool z2] (.bool true) := by
  cases z2
  · exact br_r48 4 _ rfl
  · exact br_r48 5 _ rfl
theorem br_all_17_1 [Sig] (z2 : Bool) : Ran Go.Proofs.Tryz.prog (gl3 0 2 3) 3 [.sym 0 .i64 (20) 17, .sym 1 .i64 (17 + 2) 1, .bool z2] (.bool true) := by
  cases z2
  · exact br_r48 6 _ rfl
  · exact br_r49 0 _ rfl
theorem br_all_17_2 [Sig] (z2 : Bool) : Ran Go.Proofs.Tryz.prog (gl3 0 2 3) 3 [.sym 0 .i64 (20) 17, .sym 1 .i64 (17 + 2) 2, .bool z2] (.bool true) := by
  cases z2
  · exact br_r49 1 _ rfl
  · exact br_r49 2 _ rfl
theorem br_all_17_3 [Sig] (z2 : Bool) : Ran Go.Proofs.Tryz.prog (gl3 0 2 3) 3 [.sym 0 .i64 (20) 17, .sym 1 .i64 (17 + 2) 3, .bool z2] (.bool true) := by
  cases z2
  · exact br_r49 3 _ rfl
  · exact br_r49 4 _ rfl
theorem br_all_17_4 [Sig] (z2 : Bool) : Ran Go.Proofs.Tryz.prog (gl3 0 2 3) 3 [.sym 0 .i64 (20) 17, .sym 1 .i64 (17 + 2) 4, .bool z2] (.bool true) := by
  cases z2
  · exact br_r49 5 _ rfl
  · exact br_r49 6 _ rfl
theorem br_all_17_5 [Sig] (z2 : Bool) : Ran Go.Proofs.Tryz.prog (gl3 0 2 3) 3 [.sym 0 .i64 (20) 17, .sym 1 .i64 (17 + 2) 5, .bool z2] (.bool true) := by
  cases z2
  · exact br_r50 0 _ rfl
  · exact br_r50 1 _ rfl
theorem br_all_17_6 [Sig] (z2 : Bool) : Ran Go.Proofs.Tryz.prog (gl3 0 2 3) 3 [.sym 0 .i64 (20) 17, .sym 1 .i64 (17 + 2) 6, .bool z2] (.bool true) := by
  cases z2
  · exact br_r50 2 _ rfl
  · exact br_r50 3 _ rfl
theorem br_all_17_7 [Sig] (z2 : Bool) : Ran Go.Proofs.Tryz.prog (gl3 0 2 3) 3 [.sym 0 .i64 (20) 17, .sym 1 .i64 (17 + 2) 7, .bool z2] (.bool true) := by
  cases z2
  · exact br_r50 4 _ rfl
  · exact br_r50 5 _ rfl
theorem br_all_17_8 [Sig] (z2 : Bool) : Ran Go.Proofs.Tryz.prog (gl3 0 2 3) 3 [.sym 0 .i64 (20) 17, .sym 1 .i64 (17 + 2) 8, .bool z2] (.bool true) := by
  cases z2
  · exact br_r50 6 _ rfl
  · exact br_r51 0 _ rfl
theorem br_all_17_9 [Sig] (z2 : Bool) : Ran Go.Proofs.Tryz.prog (gl3 0 2 3) 3 [.sym 0 .i64 (20) 17, .sym 1 .i64 (17 + 2) 9, .bool z2] (.bool true) := by
  cases z2
  · exact br_r51 1 _ rfl
  · exact br_r51 2 _ rfl
theorem br_all_17_10 [Sig] (z2 : Bool) : Ran Go.Proofs.Tryz.prog (gl3 0 2 3) 3 [.sym 0 .i64 (20) 17, .sym 1 .i64 (17 + 2) 10, .bool z2] (.bool true) := by
  cases z2
  · exact br_r51 3 _ rfl
  · exact br_r51 4 _ rfl
theorem br_all_17_11 [Sig] (z2 : Bool) : Ran Go.Proofs.Tryz.prog (gl3 0 2 3) 3 [.sym 0 .i64 (20) 17, .sym 1 .i64 (17 + 2) 11, .bool z2] (.bool true) := by
  cases z2
  · exact br_r51 5 _ rfl
  · exact br_r51 6 _ rfl
theorem br_all_17_12 [Sig] (z2 : Bool) : Ran Go.Proofs.Tryz.prog (gl3 0 2 3) 3 [.sym 0 .i64 (20) 17, .sym 1 .i64 (17 + 2) 12, .bool z2] (.bool true) := by
  cases z2
  · exact br_r52 0 _ rfl
  · exact br_r52 1 _ rfl
theorem br_all_17_13 [Sig] (z2 : Bool) : Ran Go.Proofs.Tryz.prog (gl3 0 2 3) 3 [.sym 0 .i64 (20) 17, .sym 1 .i64 (17 + 2) 13, .bool z2] (.bool true) := by
  cases z2
  · exact br_r52 2 _ rfl
  · exact br_r52 3 _ rfl
theorem br_all_17_14 [Sig] (z2 : Bool) : Ran Go.Proofs.Tryz.prog (gl3 0 2 3) 3 [.sym 0 .i64 (20) 17, .sym 1 .i64 (17 + 2) 14, .bool z2] (.bool true) := by
  cases z2
  · exact br_r52 4 _ rfl
  · exact br_r52 5 _ rfl
theorem br_all_17_15 [Sig] (z2 : Bool) : Ran Go.Proofs.Tryz.prog (gl3 0 2 3) 3 [.sym 0 .i64 (20) 17, .sym 1 .i64 (17 + 2) 15, .bool z2] (.bool true) := by
  cases z2
  · exact br_r52 6 _ rfl
  · exact br_r53 0 _ rfl
theorem br_all_17_16 [Sig] (z2 : Bool) : Ran Go.Proofs.Tryz.prog (gl3 0 2 3) 3 [.sym 0 .i64 (20) 17, .sym 1 .i64 (17 + 2) 16, .bool z2] (.bool true) := by
  cases z2
  · exact br_r53 1 _ rfl
  · exact br_r53 2 _ rfl
theorem br_all_17_17 [Sig] (z2 : Bool) : Ran Go.Proofs.Tryz.prog (gl3 0 2 3) 3 [.sym 0 .i64 (20) 17, .sym 1 .i64 (17 + 2) 17, .bool z2] (.bool true) := by
  cases z2
  · exact br_r53 3 _ rfl
  · exact br_r53 4 _ rfl
theorem br_all_17_18 [Sig] (z2 : Bool) : Ran Go.Proofs.Tryz.prog (gl3 0 2 3) 3 [.sym 0 .i64 (20) 17, .sym 1 .i64 (17 + 2) 18, .bool z2] (.bool true) := by
  cases z2
  · exact br_r53 5 _ rfl
  · exact br_r53 6 _ rfl
theorem br_all_17 [Sig] (r1 : Nat) (z2 : Bool) (h1 : r1 < 17 + 2) : Ran Go.Proofs.Tryz.prog (gl3 0 2 3) 3 [.sym 0 .i64 (20) 17, .sym 1 .i64 (17 + 2) r1, .bool z2] (.bool true) := by
  have hh : r1 = 0 ∨ r1 = 1 ∨ r1 = 2 ∨ r1 = 3 ∨ r1 = 4 ∨ r1 = 5 ∨ r1 = 6 ∨ r1 = 7 ∨ r1 = 8 ∨ r1 = 9 ∨ r1 = 10 ∨ r1 = 11 ∨ r1 = 12 ∨ r1 = 13 ∨ r1 = 14 ∨ r1 = 15 ∨ r1 = 16 ∨ r1 = 17 ∨ r1 = 18 := by omega
  clear h1
  rcases hh with rfl | rfl | rfl | rfl | rfl | rfl | rfl | rfl | rfl | rfl | rfl | rfl | rfl | rfl | rfl | rfl | rfl | rfl | rfl
  · exact br_all_17_0 z2
  · exact br_all_17_1 z2
  · exact br_all_17_2 z2
  · exact br_all_17_3 z2
  · exact br_all_17_4 z2
  · exact br_all_17_5 z2
  · exact br_all_17_6 z2
  · exact br_all_17_7 z2
  · exact br_all_17_8 z2
  · exact br_all_17_9 z2
  · exact br_all_17_10 z2
  · exact br_all_17_11 z2
  · exact br_all_17_12 z2
  · exact br_all_17_13 z2
  · exact br_all_17_14 z2
  · exact br_all_17_15 z2
  · exact br_all_17_16 z2
  · exact br_all_17_17 z2
  · exact br_all_17_18 z2
theorem br_all_18_0 [Sig] (z2 : Bool) : Ran Go.Proofs.Tryz.prog (gl3 0 2 3) 3 [.sym 0 .i64 (20) 18, .sym 1 .i64 (18 + 2) 0, .bool z2] (.bool true) := by
  cases z2
  · exact br_r54 0 _ rfl
  · exact br_r54 1 _ rfl
theorem br_all_18_1 [Sig] (z2 : Bool) : Ran Go.Proofs.Tryz.prog (gl3 0 2 3) 3 [.sym 0 .i64 (20) 18, .sym 1 .i64 (18 + 2) 1, .bool z2] (.bool true) := by
  cases z2
  · exact br_r54 2 _ rfl
  · exact br_r54 3 _ rfl
theorem br_all_18_2 [Sig] (z2 : Bool) : Ran Go.Proofs.Tryz.prog (gl3 0 2 3) 3 [.sym 0 .i64 (20) 18, .sym 1 .i64 (18 + 2) 2, .bool z2] (.bool true) := by
  cases z2
  · exact br_r54 4 _ rfl
  · exact br_r54 5 _ rfl
theorem br_all_18_3 [Sig] (z2 : Bool) : Ran Go.Proofs.Tryz.prog (gl3 0 2 3) 3 [.sym 0 .i64 (20) 18, .sym 1 .i64 (18 + 2) 3, .bool z2] (.bool true) := by
  cases z2
  · exact br_r54 6 _ rfl
  · exact br_r55 0 _ rfl
theorem br_all_18_4 [Sig] (z2 : Bool) : Ran Go.Proofs.Tryz.prog (gl3 0 2 3) 3 [.sym 0 .i64 (20) 18, .sym 1 .i64 (18 + 2) 4, .bool z2] (.bool true) := by
  cases z2
  · exact br_r55 1 _ rfl
  · exact br_r55 2 _ rfl
theorem br_all_18_5 [Sig] (z2 : Bool) : Ran Go.Proofs.Tryz.prog (gl3 0 2 3) 3 [.sym 0 .i64 (20) 18, .sym 1 .i64 (18 + 2) 5, .bool z2] (.bool true) := by
  cases z2
  · exact br_r55 3 _ rfl
  · exact br_r55 4 _ rfl
theorem br_all_18_6 [Sig] (z2 : Bool) : Ran Go.Proofs.Tryz.prog (gl3 0 2 3) 3 [.sym 0 .i64 (20) 18, .sym 1 .i64 (18 + 2) 6, .bool z2] (.bool true) := by
  cases z2
  · exact br_r55 5 _ rfl
  · exact br_r55 6 _ rfl
theorem br_all_18_7 [Sig] (z2 : Bool) : Ran Go.Proofs.Tryz.prog (gl3 0 2 3) 3 [.sym 0 .i64 (20) 18, .sym 1 .i64 (18 + 2) 7, .bool z2] (.bool true) := by
  cases z2
  · exact br_r56 0 _ rfl
  · exact br_r56 1 _ rfl
theorem br_all_18_8 [Sig] (z2 : Bool) : Ran Go.Proofs.Tryz.prog (gl3 0 2 3) 3 [.sym 0 .i64 (20) 18, .sym 1 .i64 (18 + 2) 8, .bool z2] (.bool true) := by
  cases z2
  · exact br_r56 2 _ rfl
  · exact br_r56 3 _ rfl
theorem br_all_18_9 [Sig] (z2 : Bool) : Ran Go.Proofs.Tryz.prog (gl3 0 2 3) 3 [.sym 0 .i64 (20) 18, .sym 1 .i64 (18 + 2) 9, .bool z2] (.bool true) := by
  cases z2
  · exact br_r56 4 _ rfl
  · exact br_r56 5 _ rfl
theorem br_all_18_10 [Sig] (z2 : Bool) : Ran Go.Proofs.Tryz.prog (gl3 0 2 3) 3 [.sym 0 .i64 (20) 18, .sym 1 .i64 (18 + 2) 10, .bool z2] (.bool true) := by
  cases z2
  · exact br_r56 6 _ rfl
  · exact br_r57 0 _ rfl
theorem br_all_18_11 [Sig] (z2 : Bool) : Ran Go.Proofs.Tryz.prog (gl3 0 2 3) 3 [.sym 0 .i64 (20) 18, .sym 1 .i64 (18 + 2) 11, .bool z2] (.bool true) := by
  cases z2
  · exact br_r57 1 _ rfl
  · exact br_r57 2 _ rfl
theorem br_all_18_12 [Sig] (z2 : Bool) : Ran Go.Proofs.Tryz.prog (gl3 0 2 3) 3 [.sym 0 .i64 (20) 18, .sym 1 .i64 (18 + 2) 12, .bool z2] (.bool true) := by
  cases z2
  · exact br_r57 3 _ rfl
  · exact br_r57 4 _ rfl
theorem br_all_18_13 [Sig] (z2 : Bool) : Ran Go.Proofs.Tryz.prog (gl3 0 2 3) 3 [.sym 0 .i64 (20) 18, .sym 1 .i64 (18 + 2) 13, .bool z2] (.bool true) := by
  cases z2
  · exact br_r57 5 _ rfl
  · exact br_r57 6 _ rfl
theorem br_all_18_14 [Sig] (z2 : Bool) : Ran Go.Proofs.Tryz.prog (gl3 0 2 3) 3 [.sym 0 .i64 (20) 18, .sym 1 .i64 (18 + 2) 14, .bool z2] (.bool true) := by
  cases z2
  · exact br_r58 0 _ rfl
  · exact br_r58 1 _ rfl
theorem br_all_18_15 [Sig] (z2 : Bool) : Ran Go.Proofs.Tryz.prog (gl3 0 2 3) 3 [.sym 0 .i64 (20) 18, .sym 1 .i64 (18 + 2) 15, .bool z2] (.bool true) := by
  cases z2
  · exact br_r58 2 _ rfl
  · exact br_r58 3 _ rfl
theorem br_all_18_16 [Sig] (z2 : Bool) : Ran Go.Proofs.Tryz.prog (gl3 0 2 3) 3 [.sym 0 .i64 (20) 18, .sym 1 .i64 (18 + 2) 16, .bool z2] (.bool true) := by
  cases z2
  · exact br_r58 4 _ rfl
  · exact br_r58 5 _ rfl
theorem br_all_18_17 [Sig] (z2 : Bool) : Ran Go.Proofs.Tryz.prog (gl3 0 2 3) 3 [.sym 0 .i64 (20) 18, .sym 1 .i64 (18 + 2) 17, .bool z2] (.bool true) := by
  cases z2
  · exact br_r58 6 _ rfl
  · exact br_r59 0 _ rfl
theorem br_all_18_18 [Sig] (z2 : Bool) : Ran Go.Proofs.Tryz.prog (gl3 0 2 3) 3 [.sym 0 .i64 (20) 18, .sym 1 .i64 (18 + 2) 18, .bool z2] (.bool true) := by
  cases z2
  · exact br_r59 1 _ rfl
  · exact br_r59 2 _ rfl
theorem br_all_18_19 [Sig] (z2 : Bool) : Ran Go.Proofs.Tryz.prog (gl3 0 2 3) 3 [.sym 0 .i64 (20) 18, .sym 1 .i64 (18 + 2) 19, .bool z2] (.bool true) := by
  cases z2
  · exact br_r59 3 _ rfl
  · exact br_r59 4 _ rfl
theorem br_all_18 [Sig] (r1 : Nat) (z2 : Bool) (h1 : r1 < 18 + 2) : Ran Go.Proofs.Tryz.prog (gl3 0 2 3) 3 [.sym 0 .i64 (20) 18, .sym 1 .i64 (18 + 2) r1, .bool z2] (.bool true) := by
  have hh : r1 = 0 ∨ r1 = 1 ∨ r1 = 2 ∨ r1 = 3 ∨ r1 = 4 ∨ r1 = 5 ∨ r1 = 6 ∨ r1 = 7 ∨ r1 = 8 ∨ r1 = 9 ∨ r1 = 10 ∨ r1 = 11 ∨ r1 = 12 ∨ r1 = 13 ∨ r1 = 14 ∨ r1 = 15 ∨ r1 = 16 ∨ r1 = 17 ∨ r1 = 18 ∨ r1 = 19 := by omega
  clear h1
  rcases hh with rfl | rfl | rfl | rfl | rfl | rfl | rfl | rfl | rfl | rfl | rfl | rfl | rfl | rfl | rfl | rfl | rfl | rfl | rfl | rfl
  · exact br_all_18_0 z2
  · exact br_all_18_1 z2
  · exact br_all_18_2 z2
  · exact br_all_18_3 z2
  · exact br_all_18_4 z2
  · exact br_all_18_5 z2
  · exact br_all_18_6 z2
  · exact br_all_18_7 z2
  · exact br_all_18_8 z2
  · exact br_all_18_9 z2
  · exact br_all_18_10 z2
  · exact br_all_18_11 z2
  · exact br_all_18_12 z2
  · exact br_all_18_13 z2
  · exact br_all_18_14 z2
  · exact br_all_18_15 z2
  · exact br_all_18_16 z2
  · exact br_all_18_17 z2
  · exact br_all_18_18 z2
  · exact br_all_18_19 z2
theorem br_all_19_0 [Sig] (z2 : Bool) : Ran Go.Proofs.Tryz.prog (gl3 0 2 3) 3 [.sym 0 .i64 (20) 19, .sym 1 .i64 (19 + 2) 0, .bool z2] (.bool true) := by
  cases z2
  · exact br_r59 5 _ rfl
  · exact br_r59 6 _ rfl
theorem br_all_19_1 [Sig] (z2 : Bool) : Ran Go.Proofs.Tryz.prog (gl3 0 2 3) 3 [.sym 0 .i64 (20) 19, .sym 1 .i64 (19 + 2) 1, .bool z2] (.bool true) := by
  cases z2
  · exact br_r60 0 _ rfl
  · exact br_r60 1 _ rfl
theorem br_all_19_2 [Sig] (z2 : Bool) : Ran Go.Proofs.Tryz.prog (gl3 0 2 3) 3 [.sym 0 .i64 (20) 19, .sym 1 .i64 (19 + 2) 2, .bool z2] (.bool true) := by
  cases z2
  · exact br_r60 2 _ rfl
  · exact br_r60 3 _ rfl
theorem br_all_19_3 [Sig] (z2 : Bool) : Ran Go.Proofs.Tryz.prog (gl3 0 2 3) 3 [.sym 0 .i64 (20) 19, .sym 1 .i64 (19 + 2) 3, .bool z2] (.bool true) := by
  cases z2
  · exact br_r60 4 _ rfl
  · exact br_r60 5 _ rfl
theorem br_all_19_4 [Sig] (z2 : Bool) : Ran Go.Proofs.Tryz.prog (gl3 0 2 3) 3 [.sym 0 .i64 (20) 19, .sym 1 .i64 (19 + 2) 4, .bool z2] (.bool true) := by
  cases z2
  · exact br_r60 6 _ rfl
  · exact br_r61 0 _ rfl
theorem br_all_19_5 [Sig] (z2 : Bool) : Ran Go.Proofs.Tryz.prog (gl3 0 2 3) 3 [.sym 0 .i64 (20) 19, .sym 1 .i64 (19 + 2) 5, .bool z2] (.bool true) := by
  cases z2
  · exact br_r61 1 _ rfl
  · exact br_r61 2 _ rfl
theorem br_all_19_6 [Sig] (z2 : Bool) : Ran Go.Proofs.Tryz.prog (gl3 0 2 3) 3 [.sym 0 .i64 (20) 19, .sym 1 .i64 (19 + 2) 6, .bool z2] (.bool true) := by
  cases z2
  · exact br_r61 3 _ rfl
  · exact br_r61 4 _ rfl
theorem br_all_19_7 [Sig] (z2 : Bool) : Ran Go.Proofs.Tryz.prog (gl3 0 2 3) 3 [.sym 0 .i64 (20) 19, .sym 1 .i64 (19 + 2) 7, .bool z2] (.bool true) := by
  cases z2
  · exact br_r61 5 _ rfl
  · exact br_r61 6 _ rfl
theorem br_all_19_8 [Sig] (z2 : Bool) : Ran Go.Proofs.Tryz.prog (gl3 0 2 3) 3 [.sym 0 .i64 (20) 19, .sym 1 .i64 (19 + 2) 8, .bool z2] (.bool true) := by
  cases z2
  · exact br_r62 0 _ rfl
  · exact br_r62 1 _ rfl
theorem br_all_19_9 [Sig] (z2 : Bool) : Ran Go.Proofs.Tryz.prog (gl3 0 2 3) 3 [.sym 0 .i64 (20) 19, .sym 1 .i64 (19 + 2) 9, .bool z2] (.bool true) := by
  cases z2
  · exact br_r62 2 _ rfl
  · exact br_r62 3 _ rfl
theorem br_all_19_10 [Sig] (z2 : Bool) : Ran Go.Proofs.Tryz.prog (gl3 0 2 3) 3 [.sym 0 .i64 (20) 19, .sym 1 .i64 (19 + 2) 10, .bool z2] (.bool true) := by
  cases z2
  · exact br_r62 4 _ rfl
  · exact br_r62 5 _ rfl
theorem br_all_19_11 [Sig] (z2 : Bool) : Ran Go.Proofs.Tryz.prog (gl3 0 2 3) 3 [.sym 0 .i64 (20) 19, .sym 1 .i64 (19 + 2) 11, .bool z2] (.bool true) := by
  cases z2
  · exact br_r62 6 _ rfl
  · exact br_r63 0 _ rfl
theorem br_all_19_12 [Sig] (z2 : Bool) : Ran Go.Proofs.Tryz.prog (gl3 0 2 3) 3 [.sym 0 .i64 (20) 19, .sym 1 .i64 (19 + 2) 12, .bool z2] (.bool true) := by
  cases z2
  · exact br_r63 1 _ rfl
  · exact br_r63 2 _ rfl
theorem br_all_19_13 [Sig] (z2 : Bool) : Ran Go.Proofs.Tryz.prog (gl3 0 2 3) 3 [.sym 0 .i64 (20) 19, .sym 1 .i64 (19 + 2) 13, .bool z2] (.bool true) := by
  cases z2
  · exact br_r63 3 _ rfl
  · exact br_r63 4 _ rfl
theorem br_all_19_14 [Sig] (z2 : Bool) : Ran Go.Proofs.Tryz.prog (gl3 0 2 3) 3 [.sym 0 .i64 (20) 19, .sym 1 .i64 (19 + 2) 14, .bool z2] (.bool true) := by
  cases z2
  · exact br_r63 5 _ rfl
  · exact br_r63 6 _ rfl
theorem br_all_19_15 [Sig] (z2 : Bool) : Ran Go.Proofs.Tryz.prog (gl3 0 2 3) 3 [.sym 0 .i64 (20) 19, .sym 1 .i64 (19 + 2) 15, .bool z2] (.bool true) := by
  cases z2
  · exact br_r64 0 _ rfl
  · exact br_r64 1 _ rfl
theorem br_all_19_16 [Sig] (z2 : Bool) : Ran Go.Proofs.Tryz.prog (gl3 0 2 3) 3 [.sym 0 .i64 (20) 19, .sym 1 .i64 (19 + 2) 16, .bool z2] (.bool true) := by
  cases z2
  · exact br_r64 2 _ rfl
  · exact br_r64 3 _ rfl
theorem br_all_19_17 [Sig] (z2 : Bool) : Ran Go.Proofs.Tryz.prog (gl3 0 2 3) 3 [.sym 0 .i64 (20) 19, .sym 1 .i64 (19 + 2) 17, .bool z2] (.bool true) := by
  cases z2
  · exact br_r64 4 _ rfl
  · exact br_r64 5 _ rfl
theorem br_all_19_18 [Sig] (z2 : Bool) : Ran Go.Proofs.Tryz.prog (gl3 0 2 3) 3 [.sym 0 .i64 (20) 19, .sym 1 .i64 (19 + 2) 18, .bool z2] (.bool true) := by
  cases z2
  · exact br_r64 6 _ rfl
  · exact br_r65 0 _ rfl
theorem br_all_19_19 [Sig] (z2 : Bool) : Ran Go.Proofs.Tryz.prog (gl3 0 2 3) 3 [.sym 0 .i64 (20) 19, .sym 1 .i64 (19 + 2) 19, .bool z2] (.bool true) := by
  cases z2
  · exact br_r65 1 _ rfl
  · exact br_r65 2 _ rfl
theorem br_all_19_20 [Sig] (z2 : Bool) : Ran Go.Proofs.Tryz.prog (gl3 0 2 3) 3 [.sym 0 .i64 (20) 19, .sym 1 .i64 (19 + 2) 20, .bool z2] (.bool true) := by
  cases z2
  · exact br_r65 3 _ rfl
  · exact br_r65 4 _ rfl
theorem br_all_19 [Sig] (r1 : Nat) (z2 : Bool) (h1 : r1 < 19 + 2) : Ran Go.Proofs.Tryz.prog (gl3 0 2 3) 3 [.sym 0 .i64 (20) 19, .sym 1 .i64 (19 + 2) r1, .bool z2] (.bool true) := by
  have hh : r1 = 0 ∨ r1 = 1 ∨ r1 = 2 ∨ r1 = 3 ∨ r1 = 4 ∨ r1 = 5 ∨ r1 = 6 ∨ r1 = 7 ∨ r1 = 8 ∨ r1 = 9 ∨ r1 = 10 ∨ r1 = 11 ∨ r1 = 12 ∨ r1 = 13 ∨ r1 = 14 ∨ r1 = 15 ∨ r1 = 16 ∨ r1 = 17 ∨ r1 = 18 ∨ r1 = 19 ∨ r1 = 20 := by omega
  clear h1
  rcases hh with rfl | rfl | rfl | rfl | rfl | rfl | rfl | rfl | rfl | rfl | rfl | rfl | rfl | rfl | rfl | rfl | rfl | rfl | rfl | rfl | rfl
  · exact br_all_19_0 z2
  · exact br_all_19_1 z2
  · exact br_all_19_2 z2
  · exact br_all_19_3 z2
  · exact br_all_19_4 z2
  · exact br_all_19_5 z2
  · exact br_all_19_6 z2
  · exact br_all_19_7 z2
  · exact br_all_19_8 z2
  · exact br_all_19_9 z2
  · exact br_all_19_10 z2
  · exact br_all_19_11 z2
  · exact br_all_19_12 z2
  · exact br_all_19_13 z2
  · exact br_all_19_14 z2
  · exact br_all_19_15 z2
  · exact br_all_19_16 z2
  · exact br_all_19_17 z2
  · exact br_all_19_18 z2
  · exact br_all_19_19 z2
  · exact br_all_19_20 z2
theorem br_all [Sig] (r0 : Nat) (r1 : Nat) (z2 : Bool) (h0 : r0 < 20) (h1 : r1 < r0 + 2) : Ran Go.Proofs.Tryz.prog (gl3 0 2 3) 3 [.sym 0 .i64 (20) r0, .sym 1 .i64 (r0 + 2) r1, .bool z2] (.bool true) := by
  have hh : r0 = 0 ∨ r0 = 1 ∨ r0 = 2 ∨ r0 = 3 ∨ r0 = 4 ∨ r0 = 5 ∨ r0 = 6 ∨ r0 = 7 ∨ r0 = 8 ∨ r0 = 9 ∨ r0 = 10 ∨ r0 = 11 ∨ r0 = 12 ∨ r0 = 13 ∨ r0 = 14 ∨ r0 = 15 ∨ r0 = 16 ∨ r0 = 17 ∨ r0 = 18 ∨ r0 = 19 := by omega
  clear h0
  rcases hh with rfl | rfl | rfl | rfl | rfl | rfl | rfl | rfl | rfl | rfl | rfl | rfl | rfl | rfl | rfl | rfl | rfl | rfl | rfl | rfl
  · exact br_all_0 r1 z2 h1
  · exact br_all_1 r1 z2 h1
  · exact br_all_2 r1 z2 h1
  · exact br_all_3 r1 z2 h1
  · exact br_all_4 r1 z2 h1
  · exact br_all_5 r1 z2 h1
  · exact br_all_6 r1 z2 h1
  · exact br_all_7 r1 z2 h1
  · exact br_all_8 r1 z2 h1
  · exact br_all_9 r1 z2 h1
  · exact br_all_10 r1 z2 h1
  · exact br_all_11 r1 z2 h1
  · exact br_all_12 r1 z2 h1
  · exact br_all_13 r1 z2 h1
  · exact br_all_14 r1 z2 h1
  · exact br_all_15 r1 z2 h1
  · exact br_all_16 r1 z2 h1
  · exact br_all_17 r1 z2 h1
  · exact br_all_18 r1 z2 h1
  · exact br_all_19 r1 z2 h1
end Go.Exe.Tryz
