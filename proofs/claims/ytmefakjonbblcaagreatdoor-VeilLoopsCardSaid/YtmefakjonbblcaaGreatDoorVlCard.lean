/- VeilLoops: the card of its row: for all numbers and words the function ends, panics nowhere and answers true. -/
import Derived.Test.YtmefakjonbblcaaGreatDoorVlRow
set_option maxRecDepth 100000
namespace Go.Proofs.YtmefakjonbblcaaGreatDoor
open Go Go.Proofs Go.Exe
theorem vl_wf : Rows.veilLoopsRow.wfByText (OpenSpec.ofChange Rows.veilLoopsSpec) = true := by kernel_rfl
theorem mainIs : Tryz.pinned.checked.prog.mainIs = some (true, "2180b816aadadf0c6c8ed9337b3d2c2b38d038a3d2c1384655750f9ea8259b71".toList) := by kernel_rfl
theorem vl_named : Tryz.prog.funcNamed "lorgnette/lorgnettelaw26.VeilLoops" = some 3 := by kernel_rfl
theorem wants : ([4, 4, 4, 4].all fun u => !Tryz.prog.wantsStandIn u) = true := by kernel_rfl
theorem looks0 : false = Tryz.prog.looks [] := by kernel_rfl
theorem vl_params : Tryz.f3.params.toList = [4, 4, 4, 4] := by rw [Tryz.params3]
theorem vl_goes : false = Rows.veilLoopsRow.goesBy Tryz.prog := goesBy_false Exe.Tryz.goes_false rfl vl_named
theorem vl_fits (f : Nat) (fn : Func) (hf : Tryz.prog.funcNamed "lorgnette/lorgnettelaw26.VeilLoops" = some f) (hfn : Tryz.prog.funcs[f]? = some fn) :
    false = Tryz.prog.looks [] ∧ ∀ (j : Nat) (t : TypeId), fn.params[j]? = some t → Tryz.prog.wantsStandIn t = false :=
  fits_of vl_named Tryz.func3 vl_params looks0 wants f fn hf hfn
theorem veilLoops_card : Rows.VeilLoopsCardSaid :=
  Claim7.holds_tied_plain_at .later [] [.data, .data, .data] true (true, "2180b816aadadf0c6c8ed9337b3d2c2b38d038a3d2c1384655750f9ea8259b71") false
    veilLoops_holds (fun _ h => by cases h) vl_wf (fun _ h => by cases h) veilLoops_row_tie rfl ⟨rfl, rfl⟩ mainIs rfl
    vl_fits vl_goes
end Go.Proofs.YtmefakjonbblcaaGreatDoor
