/- RateKinds: the card of its row: for all numbers and words the function ends, panics nowhere and answers true. -/
import Derived.Test.YteilmpcdlpibgaaGreatDoorRkRow
set_option linter.unusedVariables false
set_option linter.unusedSimpArgs false
set_option maxRecDepth 100000
set_option maxHeartbeats 4000000
namespace Go.Proofs.YteilmpcdlpibgaaGreatDoor
open Go Go.Proofs Go.Exe
theorem rk_wf : Rows.rateKindsRow.wfByText (OpenSpec.ofChange Rows.rateKindsSpec) = true := by kernel_rfl
theorem mainIs : Tryz.pinned.checked.prog.mainIs = some (true, "78e46a96adadd481537907ba4b3e80525c754c7d28b876520d2a2afd44f953dd".toList) := by kernel_rfl
theorem rk_named : Tryz.prog.funcNamed "lorgnette/lorgnettelaw12.RateKinds" = some 3 := by kernel_rfl
theorem wants : ([3, 3].all fun u => !Tryz.prog.wantsStandIn u) = true := by kernel_rfl
theorem looks0 : false = Tryz.prog.looks [] := by kernel_rfl
theorem rk_params : Tryz.f3.params.toList = [3, 3] := by rw [Tryz.params3]
theorem rk_goes : false = Rows.rateKindsRow.goesBy Tryz.prog := goesBy_false Exe.Tryz.goes_false rfl rk_named
theorem rk_fits (f : Nat) (fn : Func) (hf : Tryz.prog.funcNamed "lorgnette/lorgnettelaw12.RateKinds" = some f) (hfn : Tryz.prog.funcs[f]? = some fn) :
    false = Tryz.prog.looks [] ∧ ∀ (j : Nat) (t : TypeId), fn.params[j]? = some t → Tryz.prog.wantsStandIn t = false :=
  fits_of rk_named Tryz.func3 rk_params looks0 wants f fn hf hfn
theorem rateKinds_card : Rows.RateKindsCardSaid :=
  Claim7.holds_tied_plain_at .later [] [.data, .data, .data] true (true, "78e46a96adadd481537907ba4b3e80525c754c7d28b876520d2a2afd44f953dd") false
    rateKinds_holds (fun _ h => by cases h) rk_wf (fun _ h => by cases h) rateKinds_row_tie rfl ⟨rfl, rfl⟩ mainIs rfl
    rk_fits rk_goes
end Go.Proofs.YteilmpcdlpibgaaGreatDoor
