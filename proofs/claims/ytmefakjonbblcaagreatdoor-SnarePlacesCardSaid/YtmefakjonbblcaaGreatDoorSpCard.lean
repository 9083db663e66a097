/- SnarePlaces: the card of its row: for all numbers and words the function ends, panics nowhere and answers true. -/
import Derived.Test.YtmefakjonbblcaaGreatDoorSpRow
set_option maxRecDepth 100000
namespace Go.Proofs.YtmefakjonbblcaaGreatDoor
open Go Go.Proofs Go.Exe
theorem sp_wf : Rows.snarePlacesRow.wfByText (OpenSpec.ofChange Rows.snarePlacesSpec) = true := by kernel_rfl
theorem mainIs : Tryz.pinned.checked.prog.mainIs = some (true, "2180b816aadadf0c6c8ed9337b3d2c2b38d038a3d2c1384655750f9ea8259b71".toList) := by kernel_rfl
theorem sp_named : Tryz.prog.funcNamed "lorgnette/lorgnettelaw27.SnarePlaces" = some 5 := by kernel_rfl
theorem wants : ([3].all fun u => !Tryz.prog.wantsStandIn u) = true := by kernel_rfl
theorem looks0 : false = Tryz.prog.looks [] := by kernel_rfl
theorem sp_params : Tryz.f5.params.toList = [3] := by rw [Tryz.params5]
theorem sp_goes : false = Rows.snarePlacesRow.goesBy Tryz.prog := goesBy_false Exe.Tryz.goes_false rfl sp_named
theorem sp_fits (f : Nat) (fn : Func) (hf : Tryz.prog.funcNamed "lorgnette/lorgnettelaw27.SnarePlaces" = some f) (hfn : Tryz.prog.funcs[f]? = some fn) :
    false = Tryz.prog.looks [] ∧ ∀ (j : Nat) (t : TypeId), fn.params[j]? = some t → Tryz.prog.wantsStandIn t = false :=
  fits_of sp_named Tryz.func5 sp_params looks0 wants f fn hf hfn
theorem snarePlaces_card : Rows.SnarePlacesCardSaid :=
  Claim7.holds_tied_plain_at .later [] [.data, .data, .data] true (true, "2180b816aadadf0c6c8ed9337b3d2c2b38d038a3d2c1384655750f9ea8259b71") false
    snarePlaces_holds (fun _ h => by cases h) sp_wf (fun _ h => by cases h) snarePlaces_row_tie rfl ⟨rfl, rfl⟩ mainIs rfl
    sp_fits sp_goes
end Go.Proofs.YtmefakjonbblcaaGreatDoor
