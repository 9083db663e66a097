/- RuleLoops: all runs together. -/
import Derived.Test.YtkjjeanapehjgaaGreatDoorExeStat
import Derived.Test.YtkjjeanapehjgaaGreatDoorRlRunA
import Derived.Test.YtkjjeanapehjgaaGreatDoorRlRunB
import Derived.Test.YtkjjeanapehjgaaGreatDoorRlRunC
import Derived.Test.YtkjjeanapehjgaaGreatDoorRlRunD
import Derived.Test.YtkjjeanapehjgaaGreatDoorRlRunE
import Derived.Test.YtkjjeanapehjgaaGreatDoorRlRunF
import Derived.Test.YtkjjeanapehjgaaGreatDoorRlRunG
import Derived.Test.YtkjjeanapehjgaaGreatDoorRlRunH
set_option maxRecDepth 100000
namespace Go.Exe.Tryz
open Go Go.Exe
theorem rl_ok [Sig] : FtOK Go.Proofs.Tryz.prog (gl3 0 2 3) rl_ft := ftK_ok ftOK (known_of stat ftOK rl_awake)
theorem rl_r0 [Sig] (k : Nat) (x : KV) (h : rl_l0[k]? = some x) : Ran Go.Proofs.Tryz.prog (gl3 0 2 3) 5 (tupL (kvK x)) (kvV x) := chain_ran stat rl_ok rl_lot0 x (List.mem_of_getElem? h)
theorem rl_r1 [Sig] (k : Nat) (x : KV) (h : rl_l1[k]? = some x) : Ran Go.Proofs.Tryz.prog (gl3 0 2 3) 5 (tupL (kvK x)) (kvV x) := chain_ran stat rl_ok rl_lot1 x (List.mem_of_getElem? h)
theorem rl_r2 [Sig] (k : Nat) (x : KV) (h : rl_l2[k]? = some x) : Ran Go.Proofs.Tryz.prog (gl3 0 2 3) 5 (tupL (kvK x)) (kvV x) := chain_ran stat rl_ok rl_lot2 x (List.mem_of_getElem? h)
theorem rl_r3 [Sig] (k : Nat) (x : KV) (h : rl_l3[k]? = some x) : Ran Go.Proofs.Tryz.prog (gl3 0 2 3) 5 (tupL (kvK x)) (kvV x) := chain_ran stat rl_ok rl_lot3 x (List.mem_of_getElem? h)
theorem rl_r4 [Sig] (k : Nat) (x : KV) (h : rl_l4[k]? = some x) : Ran Go.Proofs.Tryz.prog (gl3 0 2 3) 5 (tupL (kvK x)) (kvV x) := chain_ran stat rl_ok rl_lot4 x (List.mem_of_getElem? h)
theorem rl_r5 [Sig] (k : Nat) (x : KV) (h : rl_l5[k]? = some x) : Ran Go.Proofs.Tryz.prog (gl3 0 2 3) 5 (tupL (kvK x)) (kvV x) := chain_ran stat rl_ok rl_lot5 x (List.mem_of_getElem? h)
theorem rl_r6 [Sig] (k : Nat) (x : KV) (h : rl_l6[k]? = some x) : Ran Go.Proofs.Tryz.prog (gl3 0 2 3) 5 (tupL (kvK x)) (kvV x) := chain_ran stat rl_ok rl_lot6 x (List.mem_of_getElem? h)
theorem rl_r7 [Sig] (k : Nat) (x : KV) (h : rl_l7[k]? = some x) : Ran Go.Proofs.Tryz.prog (gl3 0 2 3) 5 (tupL (kvK x)) (kvV x) := chain_ran stat rl_ok rl_lot7 x (List.mem_of_getElem? h)
theorem rl_all_0_false_false [Sig] (r3 : Nat) (h3 : r3 < 3) : Ran Go.Proofs.Tryz.prog (gl3 0 2 3) 5 [.sym 0 .i64 (4) 0, .bool false, .bool false, .sym 1 .i64 (3) r3] (.bool true) := by
  have hh : r3 = 0 ∨ r3 = 1 ∨ r3 = 2 := by omega
  clear h3
  rcases hh with rfl | rfl | rfl
  · exact rl_r0 0 _ rfl
  · exact rl_r0 1 _ rfl
  · exact rl_r0 2 _ rfl
theorem rl_all_0_false_true [Sig] (r3 : Nat) (h3 : r3 < 3) : Ran Go.Proofs.Tryz.prog (gl3 0 2 3) 5 [.sym 0 .i64 (4) 0, .bool false, .bool true, .sym 1 .i64 (3) r3] (.bool true) := by
  have hh : r3 = 0 ∨ r3 = 1 ∨ r3 = 2 := by omega
  clear h3
  rcases hh with rfl | rfl | rfl
  · exact rl_r0 3 _ rfl
  · exact rl_r0 4 _ rfl
  · exact rl_r0 5 _ rfl
theorem rl_all_0_false [Sig] (z2 : Bool) (r3 : Nat) (h3 : r3 < 3) : Ran Go.Proofs.Tryz.prog (gl3 0 2 3) 5 [.sym 0 .i64 (4) 0, .bool false, .bool z2, .sym 1 .i64 (3) r3] (.bool true) := by
  cases z2
  · exact rl_all_0_false_false r3 h3
  · exact rl_all_0_false_true r3 h3
theorem rl_all_0_true_false [Sig] (r3 : Nat) (h3 : r3 < 3) : Ran Go.Proofs.Tryz.prog (gl3 0 2 3) 5 [.sym 0 .i64 (4) 0, .bool true, .bool false, .sym 1 .i64 (3) r3] (.bool true) := by
  have hh : r3 = 0 ∨ r3 = 1 ∨ r3 = 2 := by omega
  clear h3
  rcases hh with rfl | rfl | rfl
  · exact rl_r1 0 _ rfl
  · exact rl_r1 1 _ rfl
  · exact rl_r1 2 _ rfl
theorem rl_all_0_true_true [Sig] (r3 : Nat) (h3 : r3 < 3) : Ran Go.Proofs.Tryz.prog (gl3 0 2 3) 5 [.sym 0 .i64 (4) 0, .bool true, .bool true, .sym 1 .i64 (3) r3] (.bool true) := by
  have hh : r3 = 0 ∨ r3 = 1 ∨ r3 = 2 := by omega
  clear h3
  rcases hh with rfl | rfl | rfl
  · exact rl_r1 3 _ rfl
  · exact rl_r1 4 _ rfl
  · exact rl_r1 5 _ rfl
theorem rl_all_0_true [Sig] (z2 : Bool) (r3 : Nat) (h3 : r3 < 3) : Ran Go.Proofs.Tryz.prog (gl3 0 2 3) 5 [.sym 0 .i64 (4) 0, .bool true, .bool z2, .sym 1 .i64 (3) r3] (.bool true) := by
  cases z2
  · exact rl_all_0_true_false r3 h3
  · exact rl_all_0_true_true r3 h3
theorem rl_all_0 [Sig] (z1 : Bool) (z2 : Bool) (r3 : Nat) (h3 : r3 < 3) : Ran Go.Proofs.Tryz.prog (gl3 0 2 3) 5 [.sym 0 .i64 (4) 0, .bool z1, .bool z2, .sym 1 .i64 (3) r3] (.bool true) := by
  cases z1
  · exact rl_all_0_false z2 r3 h3
  · exact rl_all_0_true z2 r3 h3
theorem rl_all_1_false_false [Sig] (r3 : Nat) (h3 : r3 < 3) : Ran Go.Proofs.Tryz.prog (gl3 0 2 3) 5 [.sym 0 .i64 (4) 1, .bool false, .bool false, .sym 1 .i64 (3) r3] (.bool true) := by
  have hh : r3 = 0 ∨ r3 = 1 ∨ r3 = 2 := by omega
  clear h3
  rcases hh with rfl | rfl | rfl
  · exact rl_r2 0 _ rfl
  · exact rl_r2 1 _ rfl
  · exact rl_r2 2 _ rfl
theorem rl_all_1_false_true [Sig] (r3 : Nat) (h3 : r3 < 3) : Ran Go.Proofs.Tryz.prog (gl3 0 2 3) 5 [.sym 0 .i64 (4) 1, .bool false, .bool true, .sym 1 .i64 (3) r3] (.bool true) := by
  have hh : r3 = 0 ∨ r3 = 1 ∨ r3 = 2 := by omega
  clear h3
  rcases hh with rfl | rfl | rfl
  · exact rl_r2 3 _ rfl
  · exact rl_r2 4 _ rfl
  · exact rl_r2 5 _ rfl
theorem rl_all_1_false [Sig] (z2 : Bool) (r3 : Nat) (h3 : r3 < 3) : Ran Go.Proofs.Tryz.prog (gl3 0 2 3) 5 [.sym 0 .i64 (4) 1, .bool false, .bool z2, .sym 1 .i64 (3) r3] (.bool true) := by
  cases z2
  · exact rl_all_1_false_false r3 h3
  · exact rl_all_1_false_true r3 h3
theorem rl_all_1_true_false [Sig] (r3 : Nat) (h3 : r3 < 3) : Ran Go.Proofs.Tryz.prog (gl3 0 2 3) 5 [.sym 0 .i64 (4) 1, .bool true, .bool false, .sym 1 .i64 (3) r3] (.bool true) := by
  have hh : r3 = 0 ∨ r3 = 1 ∨ r3 = 2 := by omega
  clear h3
  rcases hh with rfl | rfl | rfl
  · exact rl_r3 0 _ rfl
  · exact rl_r3 1 _ rfl
  · exact rl_r3 2 _ rfl
theorem rl_all_1_true_true [Sig] (r3 : Nat) (h3 : r3 < 3) : Ran Go.Proofs.Tryz.prog (gl3 0 2 3) 5 [.sym 0 .i64 (4) 1, .bool true, .bool true, .sym 1 .i64 (3) r3] (.bool true) := by
  have hh : r3 = 0 ∨ r3 = 1 ∨ r3 = 2 := by omega
  clear h3
  rcases hh with rfl | rfl | rfl
  · exact rl_r3 3 _ rfl
  · exact rl_r3 4 _ rfl
  · exact rl_r3 5 _ rfl
theorem rl_all_1_true [Sig] (z2 : Bool) (r3 : Nat) (h3 : r3 < 3) : Ran Go.Proofs.Tryz.prog (gl3 0 2 3) 5 [.sym 0 .i64 (4) 1, .bool true, .bool z2, .sym 1 .i64 (3) r3] (.bool true) := by
  cases z2
  · exact rl_all_1_true_false r3 h3
  · exact rl_all_1_true_true r3 h3
theorem rl_all_1 [Sig] (z1 : Bool) (z2 : Bool) (r3 : Nat) (h3 : r3 < 3) : Ran Go.Proofs.Tryz.prog (gl3 0 2 3) 5 [.sym 0 .i64 (4) 1, .bool z1, .bool z2, .sym 1 .i64 (3) r3] (.bool true) := by
  cases z1
  · exact rl_all_1_false z2 r3 h3
  · exact rl_all_1_true z2 r3 h3
theorem rl_all_2_false_false [Sig] (r3 : Nat) (h3 : r3 < 3) : Ran Go.Proofs.Tryz.prog (gl3 0 2 3) 5 [.sym 0 .i64 (4) 2, .bool false, .bool false, .sym 1 .i64 (3) r3] (.bool true) := by
  have hh : r3 = 0 ∨ r3 = 1 ∨ r3 = 2 := by omega
  clear h3
  rcases hh with rfl | rfl | rfl
  · exact rl_r4 0 _ rfl
  · exact rl_r4 1 _ rfl
  · exact rl_r4 2 _ rfl
theorem rl_all_2_false_true [Sig] (r3 : Nat) (h3 : r3 < 3) : Ran Go.Proofs.Tryz.prog (gl3 0 2 3) 5 [.sym 0 .i64 (4) 2, .bool false, .bool true, .sym 1 .i64 (3) r3] (.bool true) := by
  have hh : r3 = 0 ∨ r3 = 1 ∨ r3 = 2 := by omega
  clear h3
  rcases hh with rfl | rfl | rfl
  · exact rl_r4 3 _ rfl
  · exact rl_r4 4 _ rfl
  · exact rl_r4 5 _ rfl
theorem rl_all_2_false [Sig] (z2 : Bool) (r3 : Nat) (h3 : r3 < 3) : Ran Go.Proofs.Tryz.prog (gl3 0 2 3) 5 [.sym 0 .i64 (4) 2, .bool false, .bool z2, .sym 1 .i64 (3) r3] (.bool true) := by
  cases z2
  · exact rl_all_2_false_false r3 h3
  · exact rl_all_2_false_true r3 h3
theorem rl_all_2_true_false [Sig] (r3 : Nat) (h3 : r3 < 3) : Ran Go.Proofs.Tryz.prog (gl3 0 2 3) 5 [.sym 0 .i64 (4) 2, .bool true, .bool false, .sym 1 .i64 (3) r3] (.bool true) := by
  have hh : r3 = 0 ∨ r3 = 1 ∨ r3 = 2 := by omega
  clear h3
  rcases hh with rfl | rfl | rfl
  · exact rl_r5 0 _ rfl
  · exact rl_r5 1 _ rfl
  · exact rl_r5 2 _ rfl
theorem rl_all_2_true_true [Sig] (r3 : Nat) (h3 : r3 < 3) : Ran Go.Proofs.Tryz.prog (gl3 0 2 3) 5 [.sym 0 .i64 (4) 2, .bool true, .bool true, .sym 1 .i64 (3) r3] (.bool true) := by
  have hh : r3 = 0 ∨ r3 = 1 ∨ r3 = 2 := by omega
  clear h3
  rcases hh with rfl | rfl | rfl
  · exact rl_r5 3 _ rfl
  · exact rl_r5 4 _ rfl
  · exact rl_r5 5 _ rfl
theorem rl_all_2_true [Sig] (z2 : Bool) (r3 : Nat) (h3 : r3 < 3) : Ran Go.Proofs.Tryz.prog (gl3 0 2 3) 5 [.sym 0 .i64 (4) 2, .bool true, .bool z2, .sym 1 .i64 (3) r3] (.bool true) := by
  cases z2
  · exact rl_all_2_true_false r3 h3
  · exact rl_all_2_true_true r3 h3
theorem rl_all_2 [Sig] (z1 : Bool) (z2 : Bool) (r3 : Nat) (h3 : r3 < 3) : Ran Go.Proofs.Tryz.prog (gl3 0 2 3) 5 [.sym 0 .i64 (4) 2, .bool z1, .bool z2, .sym 1 .i64 (3) r3] (.bool true) := by
  cases z1
  · exact rl_all_2_false z2 r3 h3
  · exact rl_all_2_true z2 r3 h3
theorem rl_all_3_false_false [Sig] (r3 : Nat) (h3 : r3 < 3) : Ran Go.Proofs.Tryz.prog (gl3 0 2 3) 5 [.sym 0 .i64 (4) 3, .bool false, .bool false, .sym 1 .i64 (3) r3] (.bool true) := by
  have hh : r3 = 0 ∨ r3 = 1 ∨ r3 = 2 := by omega
  clear h3
  rcases hh with rfl | rfl | rfl
  · exact rl_r6 0 _ rfl
  · exact rl_r6 1 _ rfl
  · exact rl_r6 2 _ rfl
theorem rl_all_3_false_true [Sig] (r3 : Nat) (h3 : r3 < 3) : Ran Go.Proofs.Tryz.prog (gl3 0 2 3) 5 [.sym 0 .i64 (4) 3, .bool false, .bool true, .sym 1 .i64 (3) r3] (.bool true) := by
  have hh : r3 = 0 ∨ r3 = 1 ∨ r3 = 2 := by omega
  clear h3
  rcases hh with rfl | rfl | rfl
  · exact rl_r6 3 _ rfl
  · exact rl_r6 4 _ rfl
  · exact rl_r6 5 _ rfl
theorem rl_all_3_false [Sig] (z2 : Bool) (r3 : Nat) (h3 : r3 < 3) : Ran Go.Proofs.Tryz.prog (gl3 0 2 3) 5 [.sym 0 .i64 (4) 3, .bool false, .bool z2, .sym 1 .i64 (3) r3] (.bool true) := by
  cases z2
  · exact rl_all_3_false_false r3 h3
  · exact rl_all_3_false_true r3 h3
theorem rl_all_3_true_false [Sig] (r3 : Nat) (h3 : r3 < 3) : Ran Go.Proofs.Tryz.prog (gl3 0 2 3) 5 [.sym 0 .i64 (4) 3, .bool true, .bool false, .sym 1 .i64 (3) r3] (.bool true) := by
  have hh : r3 = 0 ∨ r3 = 1 ∨ r3 = 2 := by omega
  clear h3
  rcases hh with rfl | rfl | rfl
  · exact rl_r7 0 _ rfl
  · exact rl_r7 1 _ rfl
  · exact rl_r7 2 _ rfl
theorem rl_all_3_true_true [Sig] (r3 : Nat) (h3 : r3 < 3) : Ran Go.Proofs.Tryz.prog (gl3 0 2 3) 5 [.sym 0 .i64 (4) 3, .bool true, .bool true, .sym 1 .i64 (3) r3] (.bool true) := by
  have hh : r3 = 0 ∨ r3 = 1 ∨ r3 = 2 := by omega
  clear h3
  rcases hh with rfl | rfl | rfl
  · exact rl_r7 3 _ rfl
  · exact rl_r7 4 _ rfl
  · exact rl_r7 5 _ rfl
theorem rl_all_3_true [Sig] (z2 : Bool) (r3 : Nat) (h3 : r3 < 3) : Ran Go.Proofs.Tryz.prog (gl3 0 2 3) 5 [.sym 0 .i64 (4) 3, .bool true, .bool z2, .sym 1 .i64 (3) r3] (.bool true) := by
  cases z2
  · exact rl_all_3_true_false r3 h3
  · exact rl_all_3_true_true r3 h3
theorem rl_all_3 [Sig] (z1 : Bool) (z2 : Bool) (r3 : Nat) (h3 : r3 < 3) : Ran Go.Proofs.Tryz.prog (gl3 0 2 3) 5 [.sym 0 .i64 (4) 3, .bool z1, .bool z2, .sym 1 .i64 (3) r3] (.bool true) := by
  cases z1
  · exact rl_all_3_false z2 r3 h3
  · exact rl_all_3_true z2 r3 h3
theorem rl_all [Sig] (r0 : Nat) (z1 : Bool) (z2 : Bool) (r3 : Nat) (h0 : r0 < 4) (h3 : r3 < 3) : Ran Go.Proofs.Tryz.prog (gl3 0 2 3) 5 [.sym 0 .i64 (4) r0, .bool z1, .bool z2, .sym 1 .i64 (3) r3] (.bool true) := by
  have hh : r0 = 0 ∨ r0 = 1 ∨ r0 = 2 ∨ r0 = 3 := by omega
  clear h0
  rcases hh with rfl | rfl | rfl | rfl
  · exact rl_all_0 z1 z2 r3 h3
  · exact rl_all_1 z1 z2 r3 h3
  · exact rl_all_2 z1 z2 r3 h3
  · exact rl_all_3 z1 z2 r3 h3
end Go.Exe.Tryz
