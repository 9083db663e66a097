/- BindForeign: the card of its row. -/
import Derived.Test.YthkcghhmacbaaaaGreatDoorBfRow
set_option linter.unusedSimpArgs false
set_option maxRecDepth 100000
set_option maxHeartbeats 4000000
set_option linter.unusedVariables false
namespace Go.Proofs.YthkcghhmacbaaaaGreatDoor
open Go Go.Proofs Go.Exe
theorem bf_wf : Rows.bindForeignRow.wfByText (OpenSpec.ofChange Rows.bindForeignSpec) = true := by kernel_rfl
theorem mainIs : Tryz.pinned.checked.prog.mainIs = some (true, "ab6cea74bc9f6c469f5947ac1fcdd7c3961321c9c2acde948b21da5b0a908f5d".toList) := by kernel_rfl
theorem bf_named : Tryz.prog.funcNamed "lorgnette/lorgnettelaw10.BindForeign" = some 3 := by kernel_rfl
theorem wants : ([9].all fun u => !Tryz.prog.wantsStandIn u) = true := by kernel_rfl
theorem looks0 : false = Tryz.prog.looks [] := by kernel_rfl
theorem bf_params : Tryz.f3.params.toList = [9, 9] := by rw [Tryz.params3]
theorem bf_goes : false = Rows.bindForeignRow.goesBy Tryz.prog := goesBy_false Exe.Tryz.goes_false rfl bf_named
theorem bf_fits (f : Nat) (fn : Func) (hf : Tryz.prog.funcNamed "lorgnette/lorgnettelaw10.BindForeign" = some f) (hfn : Tryz.prog.funcs[f]? = some fn) :
    false = Tryz.prog.looks [] ∧ ∀ (j : Nat) (t : TypeId), fn.params[j]? = some t → Tryz.prog.wantsStandIn t = false :=
  fits_of bf_named Tryz.func3 bf_params looks0 wants f fn hf hfn
theorem bindForeign_card : Rows.BindForeignCardSaid :=
  Claim7.holds_tied_plain_at .later [] [.data, .data, .data] true (true, "ab6cea74bc9f6c469f5947ac1fcdd7c3961321c9c2acde948b21da5b0a908f5d") false
    bindForeign_holds (fun _ h => by cases h) bf_wf (fun _ h => by cases h) bindForeign_row_tie rfl ⟨rfl, rfl⟩ mainIs rfl
    bf_fits bf_goes
end Go.Proofs.YthkcghhmacbaaaaGreatDoor
