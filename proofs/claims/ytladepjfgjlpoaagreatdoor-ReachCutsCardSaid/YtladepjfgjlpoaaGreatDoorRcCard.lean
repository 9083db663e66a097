/- ReachCuts: the card of its row: for all numbers and words the function ends, panics nowhere and answers true. -/
import Derived.Test.YtladepjfgjlpoaaGreatDoorRcRow
set_option maxRecDepth 100000
set_option maxHeartbeats 4000000
namespace Go.Proofs.YtladepjfgjlpoaaGreatDoor
open Go Go.Proofs Go.Exe
theorem rc_wf : Rows.reachCutsRow.wfByText (OpenSpec.ofChange Rows.reachCutsSpec) = true := by kernel_rfl
theorem mainIs : Tryz.pinned.checked.prog.mainIs = some (true, "aefb2c36c6207702d0e4f25b628fc89337a3861d0bc61e2517532cf17aa00dc6".toList) := by kernel_rfl
theorem rc_named : Tryz.prog.funcNamed "lorgnette/lorgnettelaw22.ReachCuts" = some 3 := by kernel_rfl
theorem wants : ([3, 4].all fun u => !Tryz.prog.wantsStandIn u) = true := by kernel_rfl
theorem looks0 : false = Tryz.prog.looks [] := by kernel_rfl
theorem rc_params : Tryz.f3.params.toList = [3, 4] := by rw [Tryz.params3]
theorem rc_goes : false = Rows.reachCutsRow.goesBy Tryz.prog := goesBy_false Exe.Tryz.goes_false rfl rc_named
theorem rc_fits (f : Nat) (fn : Func) (hf : Tryz.prog.funcNamed "lorgnette/lorgnettelaw22.ReachCuts" = some f) (hfn : Tryz.prog.funcs[f]? = some fn) :
    false = Tryz.prog.looks [] ∧ ∀ (j : Nat) (t : TypeId), fn.params[j]? = some t → Tryz.prog.wantsStandIn t = false :=
  fits_of rc_named Tryz.func3 rc_params looks0 wants f fn hf hfn
theorem reachCuts_card : Rows.ReachCutsCardSaid :=
  Claim7.holds_tied_plain_at .later [] [.data, .data, .data] true (true, "aefb2c36c6207702d0e4f25b628fc89337a3861d0bc61e2517532cf17aa00dc6") false
    reachCuts_holds (fun _ h => by cases h) rc_wf (fun _ h => by cases h) reachCuts_row_tie rfl ⟨rfl, rfl⟩ mainIs rfl
    rc_fits rc_goes
end Go.Proofs.YtladepjfgjlpoaaGreatDoor
