/- RuleLoops: the card of its row: for all numbers and words the function ends, panics nowhere and answers true. -/
import Derived.Test.YtkjjeanapehjgaaGreatDoorRlRow
set_option maxRecDepth 100000
namespace Go.Proofs.YtkjjeanapehjgaaGreatDoor
open Go Go.Proofs Go.Exe
theorem rl_wf : Rows.ruleLoopsRow.wfByText (OpenSpec.ofChange Rows.ruleLoopsSpec) = true := by kernel_rfl
theorem mainIs : Tryz.pinned.checked.prog.mainIs = some (true, "b7c5908ce99e2e2a72bed30f8f33b05346d369b2cc5342337a57fe8833c3e94f".toList) := by kernel_rfl
theorem rl_named : Tryz.prog.funcNamed "lorgnette/lorgnettelaw13.RuleLoops" = some 5 := by kernel_rfl
theorem wants : ([3, 4, 4, 3].all fun u => !Tryz.prog.wantsStandIn u) = true := by kernel_rfl
theorem looks0 : false = Tryz.prog.looks [] := by kernel_rfl
theorem rl_params : Tryz.f5.params.toList = [3, 4, 4, 3] := by rw [Tryz.params5]
theorem rl_goes : false = Rows.ruleLoopsRow.goesBy Tryz.prog := goesBy_false Exe.Tryz.goes_false rfl rl_named
theorem rl_fits (f : Nat) (fn : Func) (hf : Tryz.prog.funcNamed "lorgnette/lorgnettelaw13.RuleLoops" = some f) (hfn : Tryz.prog.funcs[f]? = some fn) :
    false = Tryz.prog.looks [] ∧ ∀ (j : Nat) (t : TypeId), fn.params[j]? = some t → Tryz.prog.wantsStandIn t = false :=
  fits_of rl_named Tryz.func5 rl_params looks0 wants f fn hf hfn
theorem ruleLoops_card : Rows.RuleLoopsCardSaid :=
  Claim7.holds_tied_plain_at .later [] [.data, .data, .data] true (true, "b7c5908ce99e2e2a72bed30f8f33b05346d369b2cc5342337a57fe8833c3e94f") false
    ruleLoops_holds (fun _ h => by cases h) rl_wf (fun _ h => by cases h) ruleLoops_row_tie rfl ⟨rfl, rfl⟩ mainIs rfl
    rl_fits rl_goes
end Go.Proofs.YtkjjeanapehjgaaGreatDoor
