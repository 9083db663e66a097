/- TwinKinds: the card of its row: for all numbers and words the function ends, panics nowhere and answers true. -/
import Derived.Test.YtoddgmlofhkndaaGreatDoorTkRow
set_option linter.unusedVariables false
set_option linter.unusedSimpArgs false
set_option maxRecDepth 100000
set_option maxHeartbeats 4000000
namespace Go.Proofs.YtoddgmlofhkndaaGreatDoor
open Go Go.Proofs Go.Exe
theorem tk_wf : Rows.twinKindsRow.wfByText (OpenSpec.ofChange Rows.twinKindsSpec) = true := by kernel_rfl
theorem mainIs : Tryz.pinned.checked.prog.mainIs = some (true, "126d29bfa600fc418c9db7bf7ddd3f62e9016cfcd907e35e741cc3dd12dc8ae1".toList) := by kernel_rfl
theorem tk_named : Tryz.prog.funcNamed "lorgnette/lorgnettelaw25.TwinKinds" = some 3 := by kernel_rfl
theorem wants : ([3, 3].all fun u => !Tryz.prog.wantsStandIn u) = true := by kernel_rfl
theorem looks0 : false = Tryz.prog.looks [] := by kernel_rfl
theorem tk_params : Tryz.f3.params.toList = [3, 3] := by rw [Tryz.params3]
theorem tk_goes : false = Rows.twinKindsRow.goesBy Tryz.prog := goesBy_false Exe.Tryz.goes_false rfl tk_named
theorem tk_fits (f : Nat) (fn : Func) (hf : Tryz.prog.funcNamed "lorgnette/lorgnettelaw25.TwinKinds" = some f) (hfn : Tryz.prog.funcs[f]? = some fn) :
    false = Tryz.prog.looks [] ∧ ∀ (j : Nat) (t : TypeId), fn.params[j]? = some t → Tryz.prog.wantsStandIn t = false :=
  fits_of tk_named Tryz.func3 tk_params looks0 wants f fn hf hfn
theorem twinKinds_card : Rows.TwinKindsCardSaid :=
  Claim7.holds_tied_plain_at .later [] [.data, .data, .data] true (true, "126d29bfa600fc418c9db7bf7ddd3f62e9016cfcd907e35e741cc3dd12dc8ae1") false
    twinKinds_holds (fun _ h => by cases h) tk_wf (fun _ h => by cases h) twinKinds_row_tie rfl ⟨rfl, rfl⟩ mainIs rfl
    tk_fits tk_goes
end Go.Proofs.YtoddgmlofhkndaaGreatDoor
