/- ReachCuts: all runs together. -/
import Derived.Test.YtladepjfgjlpoaaGreatDoorExeStat
import Derived.Test.YtladepjfgjlpoaaGreatDoorRcRunA
import Derived.Test.YtladepjfgjlpoaaGreatDoorRcRunB
import Derived.Test.YtladepjfgjlpoaaGreatDoorRcRunC
import Derived.Test.YtladepjfgjlpoaaGreatDoorRcRunD
import Derived.Test.YtladepjfgjlpoaaGreatDoorRcRunE
import Derived.Test.YtladepjfgjlpoaaGreatDoorRcRunF
import Derived.Test.YtladepjfgjlpoaaGreatDoorRcRunG
import Derived.Test.YtladepjfgjlpoaaGreatDoorRcRunH
set_option maxRecDepth 100000
set_option maxHeartbeats 4000000
namespace Go.Exe.Tryz
open Go Go.Exe
theorem rc_ok [Sig] : FtOK Go.Proofs.Tryz.prog (gl3 1 2 3) rc_ft := ftK_ok ftOK (known_of stat ftOK rc_awake)
theorem rc_r0 [Sig] (k : Nat) (x : KV) (h : rc_l0[k]? = some x) : Ran Go.Proofs.Tryz.prog (gl3 1 2 3) 3 (tupL (kvK x)) (kvV x) := chain_ran stat rc_ok rc_lot0 x (List.mem_of_getElem? h)
theorem rc_r1 [Sig] (k : Nat) (x : KV) (h : rc_l1[k]? = some x) : Ran Go.Proofs.Tryz.prog (gl3 1 2 3) 3 (tupL (kvK x)) (kvV x) := chain_ran stat rc_ok rc_lot1 x (List.mem_of_getElem? h)
theorem rc_r2 [Sig] (k : Nat) (x : KV) (h : rc_l2[k]? = some x) : Ran Go.Proofs.Tryz.prog (gl3 1 2 3) 3 (tupL (kvK x)) (kvV x) := chain_ran stat rc_ok rc_lot2 x (List.mem_of_getElem? h)
theorem rc_r3 [Sig] (k : Nat) (x : KV) (h : rc_l3[k]? = some x) : Ran Go.Proofs.Tryz.prog (gl3 1 2 3) 3 (tupL (kvK x)) (kvV x) := chain_ran stat rc_ok rc_lot3 x (List.mem_of_getElem? h)
theorem rc_r4 [Sig] (k : Nat) (x : KV) (h : rc_l4[k]? = some x) : Ran Go.Proofs.Tryz.prog (gl3 1 2 3) 3 (tupL (kvK x)) (kvV x) := chain_ran stat rc_ok rc_lot4 x (List.mem_of_getElem? h)
theorem rc_r5 [Sig] (k : Nat) (x : KV) (h : rc_l5[k]? = some x) : Ran Go.Proofs.Tryz.prog (gl3 1 2 3) 3 (tupL (kvK x)) (kvV x) := chain_ran stat rc_ok rc_lot5 x (List.mem_of_getElem? h)
theorem rc_r6 [Sig] (k : Nat) (x : KV) (h : rc_l6[k]? = some x) : Ran Go.Proofs.Tryz.prog (gl3 1 2 3) 3 (tupL (kvK x)) (kvV x) := chain_ran stat rc_ok rc_lot6 x (List.mem_of_getElem? h)
theorem rc_r7 [Sig] (k : Nat) (x : KV) (h : rc_l7[k]? = some x) : Ran Go.Proofs.Tryz.prog (gl3 1 2 3) 3 (tupL (kvK x)) (kvV x) := chain_ran stat rc_ok rc_lot7 x (List.mem_of_getElem? h)
theorem rc_all_0 [Sig] (z1 : Bool) : Ran Go.Proofs.Tryz.prog (gl3 1 2 3) 3 [.sym 0 .i64 (8) 0, .bool z1] (.bool true) := by
  cases z1
  · exact rc_r0 0 _ rfl
  · exact rc_r0 1 _ rfl
theorem rc_all_1 [Sig] (z1 : Bool) : Ran Go.Proofs.Tryz.prog (gl3 1 2 3) 3 [.sym 0 .i64 (8) 1, .bool z1] (.bool true) := by
  cases z1
  · exact rc_r1 0 _ rfl
  · exact rc_r1 1 _ rfl
theorem rc_all_2 [Sig] (z1 : Bool) : Ran Go.Proofs.Tryz.prog (gl3 1 2 3) 3 [.sym 0 .i64 (8) 2, .bool z1] (.bool true) := by
  cases z1
  · exact rc_r2 0 _ rfl
  · exact rc_r2 1 _ rfl
theorem rc_all_3 [Sig] (z1 : Bool) : Ran Go.Proofs.Tryz.prog (gl3 1 2 3) 3 [.sym 0 .i64 (8) 3, .bool z1] (.bool true) := by
  cases z1
  · exact rc_r3 0 _ rfl
  · exact rc_r3 1 _ rfl
theorem rc_all_4 [Sig] (z1 : Bool) : Ran Go.Proofs.Tryz.prog (gl3 1 2 3) 3 [.sym 0 .i64 (8) 4, .bool z1] (.bool true) := by
  cases z1
  · exact rc_r4 0 _ rfl
  · exact rc_r4 1 _ rfl
theorem rc_all_5 [Sig] (z1 : Bool) : Ran Go.Proofs.Tryz.prog (gl3 1 2 3) 3 [.sym 0 .i64 (8) 5, .bool z1] (.bool true) := by
  cases z1
  · exact rc_r5 0 _ rfl
  · exact rc_r5 1 _ rfl
theorem rc_all_6 [Sig] (z1 : Bool) : Ran Go.Proofs.Tryz.prog (gl3 1 2 3) 3 [.sym 0 .i64 (8) 6, .bool z1] (.bool true) := by
  cases z1
  · exact rc_r6 0 _ rfl
  · exact rc_r6 1 _ rfl
theorem rc_all_7 [Sig] (z1 : Bool) : Ran Go.Proofs.Tryz.prog (gl3 1 2 3) 3 [.sym 0 .i64 (8) 7, .bool z1] (.bool true) := by
  cases z1
  · exact rc_r7 0 _ rfl
  · exact rc_r7 1 _ rfl
theorem rc_all [Sig] (r0 : Nat) (z1 : Bool) (h0 : r0 < 8) : Ran Go.Proofs.Tryz.prog (gl3 1 2 3) 3 [.sym 0 .i64 (8) r0, .bool z1] (.bool true) := by
  have hh : r0 = 0 ∨ r0 = 1 ∨ r0 = 2 ∨ r0 = 3 ∨ r0 = 4 ∨ r0 = 5 ∨ r0 = 6 ∨ r0 = 7 := by omega
  clear h0
  rcases hh with rfl | rfl | rfl | rfl | rfl | rfl | rfl | rfl
  · exact rc_all_0 z1
  · exact rc_all_1 z1
  · exact rc_all_2 z1
  · exact rc_all_3 z1
  · exact rc_all_4 z1
  · exact rc_all_5 z1
  · exact rc_all_6 z1
  · exact rc_all_7 z1
end Go.Exe.Tryz
