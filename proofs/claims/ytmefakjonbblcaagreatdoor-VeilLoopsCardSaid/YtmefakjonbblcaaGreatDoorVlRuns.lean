/- VeilLoops: all runs together. -/
import Derived.Test.YtmefakjonbblcaaGreatDoorExeStat
import Derived.Test.YtmefakjonbblcaaGreatDoorVlRunA
import Derived.Test.YtmefakjonbblcaaGreatDoorVlRunB
import Derived.Test.YtmefakjonbblcaaGreatDoorVlRunC
import Derived.Test.YtmefakjonbblcaaGreatDoorVlRunD
import Derived.Test.YtmefakjonbblcaaGreatDoorVlRunE
import Derived.Test.YtmefakjonbblcaaGreatDoorVlRunF
set_option maxRecDepth 100000
namespace Go.Exe.Tryz
open Go Go.Exe
theorem vl_ok [Sig] : FtOK Go.Proofs.Tryz.prog (gl3 1 2 3) vl_ft := ftK_ok ftOK (known_of stat ftOK vl_awake)
theorem vl_r0 [Sig] (k : Nat) (x : KV) (h : vl_l0[k]? = some x) : Ran Go.Proofs.Tryz.prog (gl3 1 2 3) 3 (tupL (kvK x)) (kvV x) := chain_ran stat vl_ok vl_lot0 x (List.mem_of_getElem? h)
theorem vl_r1 [Sig] (k : Nat) (x : KV) (h : vl_l1[k]? = some x) : Ran Go.Proofs.Tryz.prog (gl3 1 2 3) 3 (tupL (kvK x)) (kvV x) := chain_ran stat vl_ok vl_lot1 x (List.mem_of_getElem? h)
theorem vl_r2 [Sig] (k : Nat) (x : KV) (h : vl_l2[k]? = some x) : Ran Go.Proofs.Tryz.prog (gl3 1 2 3) 3 (tupL (kvK x)) (kvV x) := chain_ran stat vl_ok vl_lot2 x (List.mem_of_getElem? h)
theorem vl_r3 [Sig] (k : Nat) (x : KV) (h : vl_l3[k]? = some x) : Ran Go.Proofs.Tryz.prog (gl3 1 2 3) 3 (tupL (kvK x)) (kvV x) := chain_ran stat vl_ok vl_lot3 x (List.mem_of_getElem? h)
theorem vl_r4 [Sig] (k : Nat) (x : KV) (h : vl_l4[k]? = some x) : Ran Go.Proofs.Tryz.prog (gl3 1 2 3) 3 (tupL (kvK x)) (kvV x) := chain_ran stat vl_ok vl_lot4 x (List.mem_of_getElem? h)
theorem vl_r5 [Sig] (k : Nat) (x : KV) (h : vl_l5[k]? = some x) : Ran Go.Proofs.Tryz.prog (gl3 1 2 3) 3 (tupL (kvK x)) (kvV x) := chain_ran stat vl_ok vl_lot5 x (List.mem_of_getElem? h)
theorem vl_all_false_false_false [Sig] (z3 : Bool) : Ran Go.Proofs.Tryz.prog (gl3 1 2 3) 3 [.bool false, .bool false, .bool false, .bool z3] (.bool true) := by
  cases z3
  · exact vl_r0 0 _ rfl
  · exact vl_r0 1 _ rfl
theorem vl_all_false_false_true [Sig] (z3 : Bool) : Ran Go.Proofs.Tryz.prog (gl3 1 2 3) 3 [.bool false, .bool false, .bool true, .bool z3] (.bool true) := by
  cases z3
  · exact vl_r0 2 _ rfl
  · exact vl_r1 0 _ rfl
theorem vl_all_false_false [Sig] (z2 : Bool) (z3 : Bool) : Ran Go.Proofs.Tryz.prog (gl3 1 2 3) 3 [.bool false, .bool false, .bool z2, .bool z3] (.bool true) := by
  cases z2
  · exact vl_all_false_false_false z3
  · exact vl_all_false_false_true z3
theorem vl_all_false_true_false [Sig] (z3 : Bool) : Ran Go.Proofs.Tryz.prog (gl3 1 2 3) 3 [.bool false, .bool true, .bool false, .bool z3] (.bool true) := by
  cases z3
  · exact vl_r1 1 _ rfl
  · exact vl_r1 2 _ rfl
theorem vl_all_false_true_true [Sig] (z3 : Bool) : Ran Go.Proofs.Tryz.prog (gl3 1 2 3) 3 [.bool false, .bool true, .bool true, .bool z3] (.bool true) := by
  cases z3
  · exact vl_r2 0 _ rfl
  · exact vl_r2 1 _ rfl
theorem vl_all_false_true [Sig] (z2 : Bool) (z3 : Bool) : Ran Go.Proofs.Tryz.prog (gl3 1 2 3) 3 [.bool false, .bool true, .bool z2, .bool z3] (.bool true) := by
  cases z2
  · exact vl_all_false_true_false z3
  · exact vl_all_false_true_true z3
theorem vl_all_false [Sig] (z1 : Bool) (z2 : Bool) (z3 : Bool) : Ran Go.Proofs.Tryz.prog (gl3 1 2 3) 3 [.bool false, .bool z1, .bool z2, .bool z3] (.bool true) := by
  cases z1
  · exact vl_all_false_false z2 z3
  · exact vl_all_false_true z2 z3
theorem vl_all_true_false_false [Sig] (z3 : Bool) : Ran Go.Proofs.Tryz.prog (gl3 1 2 3) 3 [.bool true, .bool false, .bool false, .bool z3] (.bool true) := by
  cases z3
  · exact vl_r2 2 _ rfl
  · exact vl_r3 0 _ rfl
theorem vl_all_true_false_true [Sig] (z3 : Bool) : Ran Go.Proofs.Tryz.prog (gl3 1 2 3) 3 [.bool true, .bool false, .bool true, .bool z3] (.bool true) := by
  cases z3
  · exact vl_r3 1 _ rfl
  · exact vl_r3 2 _ rfl
theorem vl_all_true_false [Sig] (z2 : Bool) (z3 : Bool) : Ran Go.Proofs.Tryz.prog (gl3 1 2 3) 3 [.bool true, .bool false, .bool z2, .bool z3] (.bool true) := by
  cases z2
  · exact vl_all_true_false_false z3
  · exact vl_all_true_false_true z3
theorem vl_all_true_true_false [Sig] (z3 : Bool) : Ran Go.Proofs.Tryz.prog (gl3 1 2 3) 3 [.bool true, .bool true, .bool false, .bool z3] (.bool true) := by
  cases z3
  · exact vl_r4 0 _ rfl
  · exact vl_r4 1 _ rfl
theorem vl_all_true_true_true [Sig] (z3 : Bool) : Ran Go.Proofs.Tryz.prog (gl3 1 2 3) 3 [.bool true, .bool true, .bool true, .bool z3] (.bool true) := by
  cases z3
  · exact vl_r4 2 _ rfl
  · exact vl_r5 0 _ rfl
theorem vl_all_true_true [Sig] (z2 : Bool) (z3 : Bool) : Ran Go.Proofs.Tryz.prog (gl3 1 2 3) 3 [.bool true, .bool true, .bool z2, .bool z3] (.bool true) := by
  cases z2
  · exact vl_all_true_true_false z3
  · exact vl_all_true_true_true z3
theorem vl_all_true [Sig] (z1 : Bool) (z2 : Bool) (z3 : Bool) : Ran Go.Proofs.Tryz.prog (gl3 1 2 3) 3 [.bool true, .bool z1, .bool z2, .bool z3] (.bool true) := by
  cases z1
  · exact vl_all_true_false z2 z3
  · exact vl_all_true_true z2 z3
theorem vl_all [Sig] (z0 : Bool) (z1 : Bool) (z2 : Bool) (z3 : Bool) : Ran Go.Proofs.Tryz.prog (gl3 1 2 3) 3 [.bool z0, .bool z1, .bool z2, .bool z3] (.bool true) := by
  cases z0
  · exact vl_all_false z1 z2 z3
  · exact vl_all_true z1 z2 z3
end Go.Exe.Tryz
