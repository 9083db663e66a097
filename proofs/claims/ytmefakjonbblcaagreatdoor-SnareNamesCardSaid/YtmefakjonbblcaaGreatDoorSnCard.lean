/- SnareNames: the card of its row: for all numbers and words the function ends, panics nowhere and answers true. -/
import Derived.Test.YtmefakjonbblcaaGreatDoorSnRow
set_option maxRecDepth 100000
namespace Go.Proofs.YtmefakjonbblcaaGreatDoor
open Go Go.Proofs Go.Exe
theorem sn_wf : Rows.snareNamesRow.wfByText (OpenSpec.ofChange Rows.snareNamesSpec) = true := by kernel_rfl
theorem mainIs : Tryz.pinned.checked.prog.mainIs = some (true, "2180b816aadadf0c6c8ed9337b3d2c2b38d038a3d2c1384655750f9ea8259b71".toList) := by kernel_rfl
theorem sn_named : Tryz.prog.funcNamed "lorgnette/lorgnettelaw27.SnareNames" = some 4 := by kernel_rfl
theorem wants : ([3, 3, 4].all fun u => !Tryz.prog.wantsStandIn u) = true := by kernel_rfl
theorem looks0 : false = Tryz.prog.looks [] := by kernel_rfl
theorem sn_params : Tryz.f4.params.toList = [3, 3, 4] := by rw [Tryz.params4]
theorem sn_goes : false = Rows.snareNamesRow.goesBy Tryz.prog := goesBy_false Exe.Tryz.goes_false rfl sn_named
theorem sn_fits (f : Nat) (fn : Func) (hf : Tryz.prog.funcNamed "lorgnette/lorgnettelaw27.SnareNames" = some f) (hfn : Tryz.prog.funcs[f]? = some fn) :
    false = Tryz.prog.looks [] ∧ ∀ (j : Nat) (t : TypeId), fn.params[j]? = some t → Tryz.prog.wantsStandIn t = false :=
  fits_of sn_named Tryz.func4 sn_params looks0 wants f fn hf hfn
theorem snareNames_card : Rows.SnareNamesCardSaid :=
  Claim7.holds_tied_plain_at .later [] [.data, .data, .data] true (true, "2180b816aadadf0c6c8ed9337b3d2c2b38d038a3d2c1384655750f9ea8259b71") false
    snareNames_holds (fun _ h => by cases h) sn_wf (fun _ h => by cases h) snareNames_row_tie rfl ⟨rfl, rfl⟩ mainIs rfl
    sn_fits sn_goes
end Go.Proofs.YtmefakjonbblcaaGreatDoor
