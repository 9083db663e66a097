/- BindRounds: the card of its row: for all numbers and words the function ends, panics nowhere and answers true. -/
import Derived.Test.YtbgehcnapokbmaaGreatDoorBrRow
set_option maxRecDepth 100000
set_option maxHeartbeats 4000000
namespace Go.Proofs.YtbgehcnapokbmaaGreatDoor
open Go Go.Proofs Go.Exe
theorem br_wf : Rows.bindRoundsRow.wfByText (OpenSpec.ofChange Rows.bindRoundsSpec) = true := by kernel_rfl
theorem mainIs : Tryz.pinned.checked.prog.mainIs = some (true, "0d142b40c1a4f1f202b2aa542574b10561e8e24d5ac9bda8fcf53a43ff5b2635".toList) := by kernel_rfl
theorem br_named : Tryz.prog.funcNamed "lorgnette/lorgnettelaw10.BindRounds" = some 3 := by kernel_rfl
theorem wants : ([3, 3, 4].all fun u => !Tryz.prog.wantsStandIn u) = true := by kernel_rfl
theorem looks0 : false = Tryz.prog.looks [] := by kernel_rfl
theorem br_params : Tryz.f3.params.toList = [3, 3, 4] := by rw [Tryz.params3]
theorem br_goes : false = Rows.bindRoundsRow.goesBy Tryz.prog := goesBy_false Exe.Tryz.goes_false rfl br_named
theorem br_fits (f : Nat) (fn : Func) (hf : Tryz.prog.funcNamed "lorgnette/lorgnettelaw10.BindRounds" = some f) (hfn : Tryz.prog.funcs[f]? = some fn) :
    false = Tryz.prog.looks [] ∧ ∀ (j : Nat) (t : TypeId), fn.params[j]? = some t → Tryz.prog.wantsStandIn t = false :=
  fits_of br_named Tryz.func3 br_params looks0 wants f fn hf hfn
theorem bindRounds_card : Rows.BindRoundsCardSaid :=
  Claim7.holds_tied_plain_at .later [] [.data, .data, .data] true (true, "0d142b40c1a4f1f202b2aa542574b10561e8e24d5ac9bda8fcf53a43ff5b2635") false
    bindRounds_holds (fun _ h => by cases h) br_wf (fun _ h => by cases h) bindRounds_row_tie rfl ⟨rfl, rfl⟩ mainIs rfl
    br_fits br_goes
end Go.Proofs.YtbgehcnapokbmaaGreatDoor
