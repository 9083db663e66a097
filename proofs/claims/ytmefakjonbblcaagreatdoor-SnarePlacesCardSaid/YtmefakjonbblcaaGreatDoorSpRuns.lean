/- SnarePlaces: all runs together. -/
import Derived.Test.YtmefakjonbblcaaGreatDoorExeStat
import Derived.Test.YtmefakjonbblcaaGreatDoorSpRunA
import Derived.Test.YtmefakjonbblcaaGreatDoorSpRunB
set_option maxRecDepth 100000
namespace Go.Exe.Tryz
open Go Go.Exe
theorem sp_ok [Sig] : FtOK Go.Proofs.Tryz.prog (gl3 1 2 3) sp_ft := ftK_ok ftOK (known_of stat ftOK sp_awake)
theorem sp_r0 [Sig] (k : Nat) (x : KV) (h : sp_l0[k]? = some x) : Ran Go.Proofs.Tryz.prog (gl3 1 2 3) 5 (tupL (kvK x)) (kvV x) := chain_ran stat sp_ok sp_lot0 x (List.mem_of_getElem? h)
theorem sp_r1 [Sig] (k : Nat) (x : KV) (h : sp_l1[k]? = some x) : Ran Go.Proofs.Tryz.prog (gl3 1 2 3) 5 (tupL (kvK x)) (kvV x) := chain_ran stat sp_ok sp_lot1 x (List.mem_of_getElem? h)
theorem sp_all [Sig] (r0 : Nat) (h0 : r0 < 8) : Ran Go.Proofs.Tryz.prog (gl3 1 2 3) 5 [.sym 0 .i64 (8) r0] (.bool true) := by
  have hh : r0 = 0 ∨ r0 = 1 ∨ r0 = 2 ∨ r0 = 3 ∨ r0 = 4 ∨ r0 = 5 ∨ r0 = 6 ∨ r0 = 7 := by omega
  clear h0
  rcases hh with rfl | rfl | rfl | rfl | rfl | rfl | rfl | rfl
  · exact sp_r0 0 _ rfl
  · exact sp_r0 1 _ rfl
  · exact sp_r0 2 _ rfl
  · exact sp_r0 3 _ rfl
  · exact sp_r0 4 _ rfl
  · exact sp_r1 0 _ rfl
  · exact sp_r1 1 _ rfl
  · exact sp_r1 2 _ rfl
end Go.Exe.Tryz
